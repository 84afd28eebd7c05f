/- MT: the texts Rz R13P GenS GenW GenV Awk13, one behind the other. No condition but what each lemma says. -/
import Derived.Test.YtgpaehhbdbgeaaaGreatDoorMS
import Derived.Test.YtgpaehhbdbgeaaaGreatDoorMM
import Derived.Test.YtgpaehhbdbgeaaaGreatDoorMI
import Derived.Test.YtgpaehhbdbgeaaaGreatDoorMH
import Derived.Test.YtgpaehhbdbgeaaaGreatDoorME
import Derived.Test.YtgpaehhbdbgeaaaGreatDoorMR
set_option maxRecDepth 100000
set_option maxHeartbeats 16000000
namespace Go.Proofs.YtgpaehhbdbgeaaaGreatDoor
open Go.RowKit
theorem qI (k:Int) (c:List UInt8):(C9 k c).length≤4*c.length:=by
 unfold C9
 split
 ·simp
 split
 ·unfold E2
  split
  ·omega
  ·have:=N4 (Aj k).toNat c (c.length/(Aj k).toNat)
   have:=Nat.div_le_self c.length (Aj k).toNat
   omega
 ·simp
theorem Kh:nmZ []:=⟨by simp,by simp,by simp⟩
theorem qJ {g:Gn} (h:g.zz) (hn:(nmE g.nm).length≤200000):((Eb g).getD []).length≤g.oid.length+g.by'.length+4*g.tx.length+(nmE g.nm).length+4*g.av.length+4*g.pv.length+60:=by
 have h1:=eU g.oid
 have:=h.o;have:=h.t;have:=h.b;have:=h.a;have:=h.p
 unfold Eb
 split
 ·split
  ·have h6:=Ao 0 6 false (Bj g.oid) (by omega)
   have h7:=Ao 2 0 true g.by' (by omega)
   show(_++_:List UInt8).length≤_
   rw[List.length_append];omega
  ·simp
 split
 ·split
  ·rename_i hv
   have:=Kg hv
   show(chS 22 g.tx).length≤_
   omega
  ·simp
 split
 ·show g.by'.length≤_;omega
 split
 ·split
  ·show(nmE g.nm).length≤_;omega
  ·simp
 split
 ·unfold Sp
  split
  ·rename_i hv
   rw[Bool.and_eq_true] at hv
   have l2:=G6 hv.2 h.p
   have x2:=Ao 2 1 true (txE g.pk g.pv) (by omega)
   show((if _ then _ else _)++_:List UInt8).length≤_
   rw[List.length_append]
   split
   ·simp;omega
   ·rename_i hz
    have hz:zT g.ak g.av=false:=by simpa using hz
    rw[hz,Bool.false_or] at hv
    have l1:=G6 hv.1 h.a
    have x1:=Ao 2 0 true (txE g.ak g.av) (by omega)
    omega
  ·simp
 split
 ·split
  ·show(Bj g.oid).length≤_;omega
  ·simp
 ·simp
def qK (g:Gn):List D:=[iD g.k,sD g.oid,sD g.tx,Ac false g.by',Tq g.nm,iD g.ak,sD g.av,iD g.pk,sD g.pv]
def BJ (l:List Gn):D:=Fe true 9 qK l
theorem vE (g:Gn):D.uns (qK g)=gnC g:=by simp only[qK,gnC,D.uns,Ag,Bg,D.un]
theorem D.uns_app (a b:List D):D.uns (a++b)=D.uns a++D.uns b:=by
 induction a with
 |nil=>rfl
 |cons x r ih=>show D.un x::D.uns (r++b)=D.un x::(D.uns r++D.uns b);rw[ih]
theorem vF (l:List Gn):D.uns (l.flatMap qK)=l.flatMap gnC:=by
 induction l with
 |nil=>rfl
 |cons g r ih=>rw[List.flatMap_cons,D.uns_app,vE,ih,List.flatMap_cons]
theorem Pg (l:List Gn):(BJ l).un=Fs l:=by
 show D.sl false l.length 9 (D.uns (l.flatMap qK))=_
 rw[vF];rfl
structure gnsZ (l:List Gn):Prop where
 n:l.length≤100000
 z:∀g∈l,Gn.zz g
 e:(l.map gnE).flatten.length≤90000000
def Mr (l:List Gn):Bool:= !l.isEmpty&&l.all gnW
theorem Cf (c n:Nat) (k:Bool) (l:List UInt8):l.length+2≤(Ae c n k l).length:=by
 have:=kS l.length
 unfold Ae;rw[Fv];omega
theorem Ms {α:Type} (f:α→List UInt8) (k:Nat):∀{l:List α},(∀x∈l,k≤(f x).length)→k*l.length≤(l.map f).flatten.length
 |[],_=>by simp
 |x::r,h=>by
  have h1:=h x (by simp)
  have h2:=Ms f k (l:=r) fun y hy=>h y (by simp[hy])
  rw[List.map_cons,List.flatten_cons,List.length_append,List.length_cons,Nat.mul_add];omega
theorem Tw {a:Att} (h:G4 a=true):a.sm∧(atE a).length≤212+a.val.length:=by
 unfold G4 at h
 simp only[Bool.and_eq_true,decide_eq_true_eq] at h
 obtain⟨h1,h2⟩:=h
 have k1:=eU a.oid
 have k2:=Ao 0 6 false (Bj a.oid) (by omega)
 have k3:=Ao 0 16 true (Ae 0 6 false (Bj a.oid)++a.val) (by rw[List.length_append];omega)
 rw[List.length_append] at k3
 exact⟨⟨by omega,by omega⟩,by unfold atE;omega⟩
theorem Rw:∀{r:List Att},r.all G4=true→(r.map atE).flatten.length≤212*r.length+I4 r
 |[],_=>by simp[I4]
 |a::r,h=>by
  rw[List.all_cons,Bool.and_eq_true] at h
  have h1:=(Tw h.1).2
  have h2:=Rw h.2
  unfold I4 at h2⊢
  rw[List.map_cons,List.flatten_cons,List.length_append,List.map_cons,List.sum_cons,List.length_cons];omega
theorem Lk {r:List Att} (h:Cv r=true):rdnZ r∧(C6 r).length≤1702+I4 r:=by
 obtain⟨h1,h2,h3⟩:=F9 h
 have h4:=Rw h2
 have h5:=Ao 0 17 true (r.map atE).flatten (by omega)
 exact⟨⟨by omega,fun a ha=>(Tw (List.all_eq_true.1 h2 a ha)).1,by omega⟩,by unfold C6;omega⟩
theorem Oo:∀{n:List (List Att)},n.all Cv=true→(n.map C6).flatten.length≤1702*n.length+Hz n
 |[],_=>by simp[Hz]
 |a::r,h=>by
  rw[List.all_cons,Bool.and_eq_true] at h
  have h1:=(Lk h.1).2
  have h2:=Oo h.2
  unfold Hz at h2⊢
  rw[List.map_cons,List.flatten_cons,List.length_append,List.map_cons,List.sum_cons,List.length_cons];omega
theorem Y3 {n:List (List Att)} (h:Ex n=true):nmZ n∧(nmE n).length≤19026:=by
 obtain⟨h1,h2,h3⟩:=Hg h
 have h4:=Oo h2
 have h5:=Ao 0 16 true (n.map C6).flatten (by omega)
 exact⟨⟨by omega,fun r hr=>(Lk (List.all_eq_true.1 h2 r hr)).1,by omega⟩,by unfold nmE;omega⟩
theorem fM {g:Gn} (h:H0 g=true):g.mid∧(gnE g).length≤23392:=by
 obtain⟨h1,h2,h3,h4,h5,h6⟩:=Jk h
 obtain⟨n1,n2⟩:=Y3 h4
 have hz:g.zz:=⟨by omega,by omega,by omega,n1,by omega,by omega⟩
 have hc:=qJ hz (by omega)
 have:=Ao 2 g.k.toNat (Cs g.k) ((Eb g).getD []) (by omega)
 exact⟨⟨hz.s,by omega⟩,by unfold gnE;omega⟩
theorem Rx {l:List Gn} (h:C1 l=true):l.length≤8∧gnsM l∧(l.map gnE).flatten.length≤187136:=by
 obtain⟨h1,h2,-⟩:=Sj h
 have h3:∀l:List Gn,l.all H0=true→(l.map gnE).flatten.length≤23392*l.length:=by
  intro l
  induction l with
  |nil=>simp
  |cons a r ih=>
   intro h
   rw[List.all_cons,Bool.and_eq_true] at h
   have h1:=(fM h.1).2
   have h2:=ih h.2
   rw[List.map_cons,List.flatten_cons,List.length_append,List.length_cons];omega
 have h4:=h3 l h2
 exact⟨h1,⟨by omega,fun g hg=>(fM (List.all_eq_true.1 h2 g hg)).1,by omega⟩,by omega⟩
theorem AU {a:Att} (h:atV a=true) (hl:(atE a).length≤400000):a.sm∧4≤(atE a).length:=by
 obtain⟨h1,-⟩:=Vj h
 have h3:=Q8 h1
 have h4:=Cf 0 6 false (Bj a.oid)
 have h5:=Cf 0 16 true (Ae 0 6 false (Bj a.oid)++a.val)
 rw[List.length_append] at h5
 have e:(atE a).length=(Ae 0 16 true (Ae 0 6 false (Bj a.oid)++a.val)).length:=rfl
 exact⟨⟨by omega,by omega⟩,by omega⟩
theorem qL {r:List Att} (h:E4 r=true) (hl:(C6 r).length≤400000):rdnZ r∧4≤(C6 r).length:=by
 obtain⟨h0,h1,-⟩:=Pd h
 have h2:=Cf 0 17 true (r.map atE).flatten
 have e:(C6 r).length=(Ae 0 17 true (r.map atE).flatten).length:=rfl
 have h3:∀a∈r,a.sm∧4≤(atE a).length:=fun a ha=>by
  have:=Fy (List.mem_map_of_mem (f:=atE) ha)
  exact AU (List.all_eq_true.1 h1 a ha) (by omega)
 have h4:=Ms atE 4 fun a ha=>(h3 a ha).2
 have h5:1≤r.length:=by cases r with|nil=>exact absurd rfl h0|cons _ _=>simp
 exact⟨⟨by omega,fun a ha=>(h3 a ha).1,by omega⟩,by omega⟩
theorem AW {n:List (List Att)} (h:nmV n=true) (hl:(nmE n).length≤400000):nmZ n:=by
 have h2:=Cf 0 16 true (n.map C6).flatten
 have e:(nmE n).length=(Ae 0 16 true (n.map C6).flatten).length:=rfl
 have h3:∀r∈n,rdnZ r∧4≤(C6 r).length:=fun r hr=>by
  have:=Fy (List.mem_map_of_mem (f:=C6) hr)
  exact qL (List.all_eq_true.1 h r hr) (by omega)
 have h4:=Ms C6 4 fun r hr=>(h3 r hr).2
 exact⟨by omega,fun r hr=>(h3 r hr).1,by omega⟩
theorem qM {k:Int} {l:List UInt8} (h:Ah k l=true):l.length≤4*(chS k l).length:=by
 have:=qI k (chS k l)
 rwa[(Rt h).2.1] at this
theorem qN {k:Int} {l:List UInt8} (h:Ah k l=true):l.length≤4*(txE k l).length:=by
 have h1:=qM h
 have h2:=Cf 0 k.toNat false (chS k l)
 unfold txE;omega
theorem vG {g:Gn} (h:gnW g=true) (hl:(gnE g).length≤400000):g.mid:=by
 obtain⟨h1,-,⟨c,h3⟩,h4⟩:=(Mq g).1 h
 have hc:c.length≤400000:=by
  have:=Cf 2 g.k.toNat (Cs g.k) ((Eb g).getD [])
  have e:(gnE g).length=(Ae 2 g.k.toNat (Cs g.k) ((Eb g).getD [])).length:=rfl
  rw[h3] at this e
  have e2:((some c).getD [])=c:=rfl
  rw[e2] at this e;omega
 refine⟨?_,by rw[h3];show c.length≤_;omega⟩
 obtain⟨m,hm,hk⟩:=Nu h3
 obtain⟨k,oid,tx,by',nm,ak,av,pk,pv⟩:=g
 rw[C7] at h1
 obtain⟨a1,a2,a3,a4,a5⟩:=h1
 simp only at hk a1 a2 a3 a4 a5
 subst hk
 unfold Eb at h3
 simp only at h3
 have l0:([]:List UInt8).length=0:=rfl
 rcases(by omega:m=0∨m=1∨m=2∨m=3∨m=4∨m=5∨m=6∨m=7∨m=8) with rfl|rfl|rfl|rfl|rfl|rfl|rfl|rfl|rfl
 ·obtain rfl:tx=[]:=by simpa using a2
  obtain rfl:nm=[]:=by simpa using a4
  obtain⟨⟨rfl,rfl⟩,rfl,rfl⟩:(ak=0∧av=[])∧pk=0∧pv=[]:=by simpa using a5
  rw[if_pos (by rfl)] at h3
  by_cases ho:Ft oid=true
  ·rw[if_pos ho] at h3
   obtain rfl:=Option.some.inj h3
   have:=Q8 ho
   have:=Cf 0 6 false (Bj oid)
   have:=Cf 2 0 true by'
   rw[List.length_append] at hc
   exact⟨by show oid.length≤_;omega,by simp,by show by'.length≤_;omega,Kh,by simp,by simp⟩
  ·rw[if_neg ho] at h3;cases h3
 case inr.inr.inr.inl=>
  obtain rfl:oid=[]:=by simpa using a1
  obtain rfl:tx=[]:=by simpa using a2
  obtain rfl:nm=[]:=by simpa using a4
  obtain⟨⟨rfl,rfl⟩,rfl,rfl⟩:(ak=0∧av=[])∧pk=0∧pv=[]:=by simpa using a5
  rw[if_neg (by decide),if_neg (by decide),if_pos (by decide)] at h3
  obtain rfl:=Option.some.inj h3
  exact⟨by simp,by simp,by show by'.length≤_;omega,Kh,by simp,by simp⟩
 case inr.inr.inr.inr.inl=>
  obtain rfl:oid=[]:=by simpa using a1
  obtain rfl:tx=[]:=by simpa using a2
  obtain rfl:by'=[]:=by simpa using a3
  obtain⟨⟨rfl,rfl⟩,rfl,rfl⟩:(ak=0∧av=[])∧pk=0∧pv=[]:=by simpa using a5
  rw[if_neg (by decide),if_neg (by decide),if_neg (by decide),if_pos (by rfl)] at h3
  by_cases ho:nmV nm=true
  ·rw[if_pos ho] at h3
   obtain rfl:=Option.some.inj h3
   exact⟨by simp,by simp,by simp,AW ho hc,by simp,by simp⟩
  ·rw[if_neg ho] at h3;cases h3
 case inr.inr.inr.inr.inr.inl=>
  obtain rfl:oid=[]:=by simpa using a1
  obtain rfl:tx=[]:=by simpa using a2
  obtain rfl:by'=[]:=by simpa using a3
  obtain rfl:nm=[]:=by simpa using a4
  rw[if_neg (by decide),if_neg (by decide),if_neg (by decide),if_neg (by decide),if_pos (by rfl)] at h3
  unfold Sp at h3
  simp only at h3
  by_cases hh:((zT ak av||Ah ak av)&&Ah pk pv)=true
  ·rw[if_pos hh] at h3
   obtain rfl:=Option.some.inj h3
   rw[Bool.and_eq_true,Bool.or_eq_true] at hh
   have k1:=qN hh.2
   have k2:=Cf 2 1 true (txE pk pv)
   rw[List.length_append] at hc
   refine⟨by simp,by simp,by simp,Kh,?_,by show pv.length≤_;omega⟩
   show av.length≤_
   by_cases hz:zT ak av=true
   ·rw[(Vx.1 hz).2];simp
   ·rw[if_neg hz] at hc
    have k3:=qN (hh.1.resolve_left hz)
    have k4:=Cf 2 0 true (txE ak av)
    omega
  ·rw[if_neg hh] at h3;cases h3
 case inr.inr.inr.inr.inr.inr.inr.inl=>
  obtain rfl:oid=[]:=by simpa using a1
  obtain rfl:tx=[]:=by simpa using a2
  obtain rfl:nm=[]:=by simpa using a4
  obtain⟨⟨rfl,rfl⟩,rfl,rfl⟩:(ak=0∧av=[])∧pk=0∧pv=[]:=by simpa using a5
  rw[if_neg (by decide),if_neg (by decide),if_pos (by decide)] at h3
  obtain rfl:=Option.some.inj h3
  exact⟨by simp,by simp,by show by'.length≤_;omega,Kh,by simp,by simp⟩
 case inr.inr.inr.inr.inr.inr.inr.inr=>
  obtain rfl:tx=[]:=by simpa using a2
  obtain rfl:by'=[]:=by simpa using a3
  obtain rfl:nm=[]:=by simpa using a4
  obtain⟨⟨rfl,rfl⟩,rfl,rfl⟩:(ak=0∧av=[])∧pk=0∧pv=[]:=by simpa using a5
  rw[if_neg (by decide),if_neg (by decide),if_neg (by decide),if_neg (by decide),if_neg (by decide),if_pos (by rfl)] at h3
  by_cases ho:Ft oid=true
  ·rw[if_pos ho] at h3
   obtain rfl:=Option.some.inj h3
   have:=Q8 ho
   exact⟨by show oid.length≤_;omega,by simp,by simp,Kh,by simp,by simp⟩
  ·rw[if_neg ho] at h3;cases h3
 all_goals
  obtain rfl:oid=[]:=by simpa using a1
  obtain rfl:by'=[]:=by simpa using a3
  obtain rfl:nm=[]:=by simpa using a4
  obtain⟨⟨rfl,rfl⟩,rfl,rfl⟩:(ak=0∧av=[])∧pk=0∧pv=[]:=by simpa using a5
  rw[if_neg (by decide),if_pos (by decide)] at h3
  by_cases ho:Ah 22 tx=true
  ·rw[if_pos ho] at h3
   obtain rfl:=Option.some.inj h3
   have:=qM ho
   exact⟨by simp,by show tx.length≤_;omega,by simp,Kh,by simp,by simp⟩
  ·rw[if_neg ho] at h3;cases h3
theorem Ry {l:List Gn} (h:l.all gnW=true) (hl:(l.map gnE).flatten.length≤400000):gnsM l:=by
 have hm:∀g∈l,g.mid:=fun g hg=>by
  have:=Fy (List.mem_map_of_mem (f:=gnE) hg)
  exact vG (List.all_eq_true.1 h g hg) (by omega)
 have h4:=Ms gnE 2 (l:=l) fun g _=>by
  have:=Cf 2 g.k.toNat (Cs g.k) ((Eb g).getD [])
  unfold gnE;omega
 exact⟨by omega,hm,by omega⟩
def cK (g:Gn):List D:=[iD g.k,sD g.oid,sD g.tx,Ac true g.by',Tq g.nm,iD g.ak,sD g.av,iD g.pk,sD g.pv]
def Km (l:List Gn):D:=Fe true 9 cK l
theorem Mt (g:Gn):D.uns (cK g)=gnC g:=by simp only[cK,gnC,D.uns,Ag,Bg,D.un]
theorem Mv (l:List Gn):D.uns (l.flatMap cK)=l.flatMap gnC:=by
 induction l with
 |nil=>rfl
 |cons g r ih=>rw[List.flatMap_cons,D.uns_app,Mt,ih,List.flatMap_cons]
theorem G7 (l:List Gn):(Km l).un=Fs l:=by
 show D.sl false l.length 9 (D.uns (l.flatMap cK))=_
 rw[Mv];rfl
theorem fN {l:List Gn} (h:∀g∈l,g.mid):Vs l=Mr l:=by
 unfold Vs Mr
 congr 1
 induction l with
 |nil=>rfl
 |cons a r ih=>rw[List.all_cons,List.all_cons,yX (h a (by simp)),ih fun g hg=>h g (by simp[hg])]
theorem Rz (l:List Gn) (h:gnsM l):Ab Tryz.prog 61 [.d (Fs l)] (fun r=>r=Ox (Mr l) (Oy l)):=by
 have hM:=On l h
 rwa[fN h.m] at hM
theorem R0 (l:List Gn) (h:gnsM l):Ab Tryz.prog 69 [.d (Fs l)] (fun r=>r=bv (Mr l)):=by
 have hM:=Yu l h
 rwa[fN h.m] at hM
theorem zA {g:Gn} (h:gnW g=true) (hs:g.mid):∃t:Tv,t.ok∧gnE g=t.enc:=by
 obtain⟨-,-,⟨c,h3⟩,-⟩:=(Mq g).1 h
 obtain⟨n,hn,hk⟩:=Nu h3
 exact⟨⟨2,g.k.toNat,Cs g.k,(Eb g).getD []⟩,⟨by show(2:Nat)≤3;omega,by show g.k.toNat≤30;omega,by have:=hs.c;show((Eb g).getD []).length≤_;omega⟩,rfl⟩
def gpS:List (List UInt8)→Option (List Gn)
 |[]=>some []
 |p::r=>match I5 p with
  |none=>none
  |some g=>(gpS r).map (g:: ·)
def gpL (b:List UInt8):List El→Option (List Gn)×Nat×Nat
 |[]=>(some [],0,0)
 |x::r=>match I5 (elO b x) with
  |none=>(none,(Rq (elO b x)).1,x.at'+(Rq (elO b x)).2)
  |some g=>match gpL b r with
   |(some gs,_)=>(some (g::gs),0,0)
   |(none,p)=>(none,p)
def R1 (ms:List Gn):Option (List Gn)×Nat×Nat→Option (List Gn)×Nat×Nat
 |(some r,_)=>(some (ms++r),0,0)
 |(none,p)=>(none,p)
theorem R2 (b:List UInt8):∀l:List El,(gpL b l).1.isSome=true→(gpL b l).2=(0,0)
 |[],_=>rfl
 |x::r,h=>by
  rw[gpL] at h⊢
  cases hv:I5 (elO b x) with
  |none=>rw[hv] at h;cases h
  |some m=>
   rw[hv] at h
   cases hp:gpL b r with
   |mk o p=>rw[hp] at h;cases o with
    |none=>cases h
    |some ms=>rfl
theorem kU (b:List UInt8) (l:List El):R1 [] (gpL b l)=gpL b l:=by
 have h:=R2 b l
 cases hp:gpL b l with
 |mk o p=>
  rw[hp] at h
  cases o with
  |none=>rfl
  |some ms=>have:=h rfl;simp only at this;subst this;rfl
theorem cL {b:List UInt8} {x:El} {r:List El} {m:Gn} (ms:List Gn) (hv:I5 (elO b x)=some m):R1 ms (gpL b (x::r))=R1 (ms++[m]) (gpL b r):=by
 rw[gpL,hv]
 cases hp:gpL b r with
 |mk o p=>cases o with
  |none=>rfl
  |some l=>simp[R1]
theorem Vz (b:List UInt8):∀l:List El,(gpL b l).1=gpS (l.map (elO b))
 |[]=>rfl
 |x::r=>by
  have ih:=Vz b r
  rw[gpL,List.map_cons,gpS]
  cases hv:I5 (elO b x) with
  |none=>rfl
  |some m=>
   simp only
   rw[←ih]
   cases hp:gpL b r with
   |mk o p=>cases o<;>rfl
theorem fO {b:List UInt8}:∀{l:List El},(∀x∈l,x.at'≤x.stop∧x.stop≤b.length)→(gpL b l).1=none→(gpL b l).2.1≠0∧(gpL b l).2.2≤b.length
 |[],_,h=>by cases h
 |x::r,hx,h=>by
  have ih:=fO (b:=b) (l:=r) fun y hy=>hx y (by simp[hy])
  rw[gpL] at h⊢
  cases hv:I5 (elO b x) with
  |none=>
   obtain⟨e1,e2⟩:=Vr (elO b x)
   have:=Rk b x
   obtain⟨x1,x2⟩:=hx x (by simp)
   exact⟨e1,by show x.at'+_≤_;omega⟩
  |some m=>
   rw[hv] at h
   cases hp:gpL b r with
   |mk o p=>
    rw[hp] at h ih
    cases o with
    |none=>exact ih rfl
    |some ms=>cases h
theorem fP:∀{v:List Gn},v.all gnW=true→(∀m∈v,m.mid)→gpS (v.map gnE)=some v
 |[],_,_=>rfl
 |m::r,h,hs=>by
  rw[List.all_cons,Bool.and_eq_true] at h
  rw[List.map_cons,gpS,Y1 h.1 (hs m (by simp)),fP h.2 fun k hk=>hs k (by simp[hk])];rfl
theorem fQ:∀{ps:List (List UInt8)} {v:List Gn},(∀p∈ps,p.length≤800000)→gpS ps=some v→v.all gnW=true∧ps=v.map gnE
 |[],v,_,h=>by
  rw[gpS] at h
  obtain rfl:=Option.some.inj h
  exact⟨rfl,rfl⟩
 |p::r,v,hl,h=>by
  rw[gpS] at h
  cases hv:I5 p with
  |none=>rw[hv] at h;cases h
  |some m=>
   rw[hv] at h
   cases hr:gpS r with
   |none=>rw[hr] at h;cases h
   |some w=>
    rw[hr] at h
    obtain rfl:=Option.some.inj h
    obtain⟨k1,k2⟩:=qF hv (hl p (by simp))
    obtain⟨k3,k4⟩:=fQ (fun q hq=>hl q (by simp[hq])) hr
    exact⟨by rw[List.all_cons,k1,k3];rfl,by rw[List.map_cons,←k2,←k4]⟩
def V1 (b:List UInt8):Option (List Gn)×Nat×Nat:=
 if(An b 0 16).code≠0 then(none,(An b 0 16).code,(An b 0 16).off) else if(An b 0 16).l=[] then(none,1,b.length) else gpL b (An b 0 16).l
def BK:Option (List Gn)×Nat×Nat→AV
 |(some gs,_)=> .tup [.d (Km gs),erA 0 0]
 |(none,c,p)=> .tup [Ay,erA c p]
theorem fR (b:List UInt8) (hb:b.length≤800000):(∃v:List Gn,v≠[]∧v.all gnW=true∧b=Oy v∧V1 b=(some v,0,0))∨(∃c o:Nat,c≠0∧o≤b.length∧V1 b=(none,c,o)):=by
 unfold V1
 by_cases h1:(An b 0 16).code≠0
 ·rw[if_pos h1]
  exact .inr ⟨_,_,h1,Gs b 0 16,rfl⟩
 rw[if_neg h1]
 have h1':=Decidable.not_not.1 h1
 obtain⟨ts,t1,t2,-,-,-⟩:=H5 h1'
 have hlt:(Bu ts).length≤800000:=by
  have:=congrArg List.length t2
  unfold Ae at this
  rw[Fv] at this;omega
 obtain⟨q,e1,e2⟩:=En (c:=0) (n:=16) ts (by omega) (by omega) t1 (by omega)
 rw[←t2] at e1 e2
 rw[e1]
 by_cases h2:els q ts=[]
 ·rw[if_pos h2];exact .inr ⟨1,b.length,by omega,Nat.le_refl _,rfl⟩
 rw[if_neg h2]
 have hf:=Vz b (els q ts)
 rw[e2] at hf
 have hoff:=fO (b:=b) (l:=els q ts) fun x hx=>by
  have:=C5 (b:=b) (c:=0) (n:=16) (x:=x) (by rw[e1];exact hx)
  omega
 have hz:=R2 b (els q ts)
 show(∃v:List Gn,v≠[]∧v.all gnW=true∧b=Oy v∧gpL b (els q ts)=(some v,0,0))∨(∃c o:Nat,c≠0∧o≤b.length∧gpL b (els q ts)=(none,c,o))
 cases hp:gpL b (els q ts) with
 |mk o p=>
  rw[hp] at hf hoff hz
  obtain⟨c,p⟩:=p
  simp only at hf hoff hz
  cases o with
  |none=>exact .inr ⟨c,p,(hoff rfl).1,(hoff rfl).2,rfl⟩
  |some v=>
   obtain⟨k1,k2⟩:=fQ (fun p hp=>by
    have:=Fy hp
    rw[←Dn] at this;omega) hf.symm
   have hz:=hz rfl
   simp only[Prod.mk.injEq] at hz
   obtain⟨rfl,rfl⟩:=hz
   refine .inl ⟨v,?_,k1,?_,rfl⟩
   ·rintro rfl
    cases ts with
    |nil=>exact h2 rfl
    |cons t r=>simp at k2
   ·rw[t2]
    unfold Oy
    rw[Dn,k2]
theorem zB {v:List Gn} (h:v.all gnW=true) (hs:gnsM v):∃ts:List Tv,(∀t∈ts,t.ok)∧v.map gnE=ts.map Tv.enc:=
 Pb fun p hp=>by
  obtain⟨m,hm,rfl⟩:=List.mem_map.1 hp
  exact zA (List.all_eq_true.1 h m hm) (hs.m m hm)
theorem vH {v:List Gn} (h0:v≠[]) (h:v.all gnW=true) (hs:gnsM v):V1 (Oy v)=(some v,0,0):=by
 obtain⟨ts,t1,t2⟩:=zB h hs
 have hfl:(v.map gnE).flatten=Bu ts:=by rw[t2,Dn]
 have:=hs.e
 obtain⟨q,e1,e2⟩:=En (c:=0) (n:=16) ts (by omega) (by omega) t1 (by rw[←hfl];omega)
 have hf:=Vz (Ae 0 16 true (Bu ts)) (els q ts)
 rw[e2,←t2,fP h hs.m] at hf
 unfold V1 Oy
 rw[hfl,e1,if_neg (by simp),if_neg (by
  intro e
  have:=congrArg List.length e
  rw[Vg] at this
  have h3:=congrArg List.length t2
  rw[List.length_map,List.length_map] at h3
  exact h0 (List.eq_nil_of_length_eq_zero (by rw[h3];exact this)))]
 have hz:=R2 (Ae 0 16 true (Bu ts)) (els q ts) (by rw[hf];rfl)
 exact Prod.ext hf hz
theorem Mw {p:Prop} (h:p:=by first|rfl|(simp only[AV.gives,AV.ren,AV.give,D.un,D.uns,Ag,Ai,List.nil_append,List.append_nil,List.cons_append,Al,A3,Bz,Bd,Aw,Bt,Cd,Ce,Bg,Dk,Bk,G7,Mt,Mv,Dq,Ds];first|done|rfl)):p:=h
theorem Y4 (b:List UInt8) (hb:b.length≤800000):Ab Tryz.prog 153 [.d (Ac false b)] (fun r=>r=BK (V1 b)):=by
 have hP:=Hy b 0 16 (by omega)
 have hin:=fun x=>C5 (b:=b) (c:=0) (n:=16) (x:=x)
 have hcn:=Is b 0 16
 unfold V1
 generalize An b 0 16=R at hP hin hcn⊢
 by_cases h1:R.code≠0
 ·rw[if_pos h1]
  rw[lrA,if_pos h1] at hP
  have gc:((R.code:Int) !=0)=true:=by rw[bne_iff_ne];omega
  generalize R.code=c at hP gc
  generalize R.off=o at hP
  refine acQ 60 Tryz.func153 rfl rfl fun _ _ _=> ?_
  (repeat'((conv=>whnf);first|refine NBr.pos asQ ?_|refine NCall.eq hP Mw ?_|refine NFact.go ⟨by decide+kernel,by kernel_rfl⟩ ?_));(all_goals(conv=>whnf))
  all_goals exact NEnd.eq leQ
 rw[if_neg h1]
 rw[lrA,if_neg h1] at hP
 generalize R.l=l at hP hin hcn⊢
 by_cases h2:l=[]
 ·subst h2
  rw[if_pos rfl]
  refine acQ 60 Tryz.func153 rfl rfl fun _ _ _=> ?_
  (repeat'((conv=>whnf);first|refine NBr.yes ?_|refine NBr.no ?_|refine NCall.eq hP Mw ?_));(all_goals(conv=>whnf))
  all_goals exact NEnd.eq leQ
 rw[if_neg h2]
 have gl:((l.length:Int)==0)=false:=by rw[beq_eq_false_iff_ne];intro h;exact h2 (List.eq_nil_of_length_eq_zero (by omega))
 have hd0:gpL b l=R1 [] (gpL b (l.drop 0)):=by rw[kU,List.drop_zero]
 generalize hQ:gpL b l=q at hd0⊢
 refine acQ 60 Tryz.func153 rfl rfl fun _ _ _=> ?_
 (repeat'((conv=>whnf);first|refine NBr.neg asQ ?_|refine NBr.no ?_|refine NCall.eq hP Mw ?_));(all_goals(conv=>whnf))
 refine NLoop.goA [.s 6 9 70] (fun z:Nat×List Gn=>z.1≤l.length∧z.2.length≤z.1∧q=R1 z.2 (gpL b (l.drop z.1))) (fun z=>l.length-z.1) (fun z=>⟨[(0,.d (Ac false b)),(3,.ptr 3 0),(6,Dk 6 9 70 cK z.2),(26,.d (bE l)),(27,iv l.length),(28,iv z.1)],[(3,[iv 0,iv 0])],[(6,(z.2.length,9,70))]⟩) (0,[]) ⟨by simp,by simp,hd0⟩ leQ ?_
 rintro⟨i,ms⟩ ⟨hi,hm,he⟩
 simp only at hi hm he
 by_cases hik:i<l.length
 ·have gi:decide ((i:Int)<l.length)=true:=decide_eq_true (by omega)
  obtain⟨x,hg⟩:∃p,l[i]?=some p:=⟨_,List.getElem?_eq_getElem hik⟩
  obtain⟨x1,x2,x3⟩:=hin x (List.mem_of_getElem? hg)
  have hel:=Pe b x
  have hO:=Rs (elO b x) (by omega)
  obtain⟨hc0,hof⟩:=Vr (elO b x)
  rw[Nr hg] at he
  cases hp:I5 (elO b x) with
  |none=>
   have bad:q=(none,(Rq (elO b x)).1,x.at'+(Rq (elO b x)).2):=by rw[he,gpL,hp];rfl
   rw[bad]
   rw[hp] at hO
   generalize Rq (elO b x)=e at hO hc0 hof
   obtain⟨c,o⟩:=e
   simp only at hc0 hof
   have hO:Ab Tryz.prog 95 [.d (Ac false (elO b x))] (fun r=>r= .tup [gnQ gz,erA c o]):=hO
   have gc:((c:Int) !=0)=true:=by rw[bne_iff_ne];omega
   unfold elO at hO
   (repeat'((conv=>whnf);first|refine NBr.pos asQ ?_|refine NIdx.tab (fun _=>rfl) hg ?_|refine NSl.slice (x.at') (x.stop) ?_|refine NCall.eq hO Mw ?_|(with_reducible refine NInt.i64 ?_)|refine NFact.go ⟨by decide+kernel,by kernel_rfl⟩ ?_));(all_goals(conv=>whnf))
   all_goals exact NEnd.eq leQ
  |some g=>
   rw[cL ms hp] at he
   rw[hp] at hO
   have hO:Ab Tryz.prog 95 [.d (Ac false (elO b x))] (fun r=>r= .tup [gnQ g,erA 0 0]):=hO
   unfold elO at hO
   (repeat'((conv=>whnf);first|refine NBr.pos asQ ?_|refine NBr.no ?_|refine NIdx.tab (fun _=>rfl) hg ?_|refine NSl.slice (x.at') (x.stop) ?_|refine NCall.eq hO Mw ?_|refine NApp.one cK g ?_|(with_reducible refine NInt.i64 ?_)));(all_goals(conv=>whnf))
   refine⟨(i+1,ms++[g]),⟨by show i+1≤_;omega,by simp;omega,he⟩,by show l.length-(i+1)<l.length-i;omega,?_⟩
   exact leQ
 ·have gi:decide ((i:Int)<l.length)=false:=decide_eq_false (by omega)
  obtain rfl:i=l.length:=by omega
  rw[List.drop_length,gpL] at he
  have he':q=(some ms,0,0):=by rw[he];simp[R1]
  subst he'
  (repeat'((conv=>whnf);refine NBr.neg asQ ?_));(all_goals(conv=>whnf))
  all_goals exact NEnd.eq leQ
theorem kV {g:Gn} {n:Nat} {k:Bool} {c b:List UInt8} (h1:Eb g=some c) (h2:g.k=n) (h3:Cs n=k) (h4:c.length<128) (h5:UInt8.ofNat (idN 2 k n)::UInt8.ofNat c.length::c=b):gnE g=b:=by
 unfold gnE
 rw[h1,h2,h3,show(some c).getD []=c from rfl,Int.toNat_natCast,C8 _ _ _ _ h4];exact h5
end Go.Proofs.YtgpaehhbdbgeaaaGreatDoor
