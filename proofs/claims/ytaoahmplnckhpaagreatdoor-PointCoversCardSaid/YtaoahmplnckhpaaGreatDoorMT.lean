/- MT: the texts Rz R13P GenS GenW GenV Awk13, one behind the other. No condition but what each lemma says. -/
import Derived.Test.YtaoahmplnckhpaaGreatDoorMS
set_option maxRecDepth 100000
set_option maxHeartbeats 16000000
namespace Go.Proofs.YtaoahmplnckhpaaGreatDoor
open Go.RowKit
theorem tF (k:Int) (c:List UInt8):(Fv k c).length≤4*c.length:=by
 unfold Fv
 split
 ·simp
 split
 ·unfold Fu
  split
  ·omega
  ·have:=Oz (Aq k).toNat c (c.length/(Aq k).toNat)
   have:=Nat.div_le_self c.length (Aq k).toNat
   omega
 ·simp
theorem Le:nmZ []:=⟨by simp,by simp,by simp⟩
theorem tG {g:Gn} (h:g.zz) (hn:(nmE g.nm).length≤200000):((Gq g).getD []).length≤g.oid.length+g.by'.length+4*g.tx.length+(nmE g.nm).length+4*g.av.length+4*g.pv.length+60:=by
 have h1:=gH g.oid
 have:=h.o;have:=h.t;have:=h.b;have:=h.a;have:=h.p
 unfold Gq
 split
 ·split
  ·have h6:=A2 0 6 false (Cd g.oid) (by omega)
   have h7:=A2 2 0 true g.by' (by omega)
   show(_++_:List UInt8).length≤_
   rw[Aj];omega
  ·simp
 split
 ·split
  ·rename_i hv
   have:=Ld hv
   show(chS 22 g.tx).length≤_
   omega
  ·simp
 split
 ·show g.by'.length≤_;omega
 split
 ·split
  ·show(nmE g.nm).length≤_;omega
  ·simp
 split
 ·unfold Zu
  split
  ·rename_i hv
   rw[Ap] at hv
   have l2:=Hw hv.2 h.p
   have x2:=A2 2 1 true (txE g.pk g.pv) (by omega)
   show((if _ then _ else _)++_:List UInt8).length≤_
   rw[Aj]
   split
   ·simp;omega
   ·rename_i hz
    have hz:zT g.ak g.av=false:=by simpa using hz
    rw[hz,Bool.false_or] at hv
    have l1:=Hw hv.1 h.a
    have x1:=A2 2 0 true (txE g.ak g.av) (by omega)
    omega
  ·simp
 split
 ·split
  ·show(Cd g.oid).length≤_;omega
  ·simp
 ·simp
def tH (g:Gn):List D:=[iD g.k,sD g.oid,sD g.tx,Af false g.by',Ue g.nm,iD g.ak,sD g.av,iD g.pk,sD g.pv]
def FA (l:List Gn):D:=Ey true 9 tH l
theorem xZ (g:Gn):D.uns (tH g)=gnC g:=by simp only[tH,gnC,D.uns,Ai,Bp,D.un]
theorem D.uns_app (a b:List D):D.uns (a++b)=D.uns a++D.uns b:=by
 induction a with
 |nil=>rfl
 |cons x r ih=>show D.un x::D.uns (r++b)=D.un x::(D.uns r++D.uns b);rw[ih]
theorem iF (l:List Gn):D.uns (l.flatMap tH)=l.flatMap gnC:=by
 induction l with
 |nil=>rfl
 |cons g r ih=>rw[List.flatMap_cons,D.uns_app,xZ,ih,List.flatMap_cons]
theorem iG (l:List Gn):(FA l).un=Ch l:=by
 show D.sl false l.length 9 (D.uns (l.flatMap tH))=_
 rw[iF];rfl
theorem tI {α:Type} (f:α→Bool) {l:List α} {i:Nat} {x:α} (hg:l[i]?=some x) (hx:f x=false):l.all f=false:=by
 cases hh:l.all f with
 |false=>rfl
 |true=>rw[List.all_eq_true.1 hh x (Bk hg)] at hx;cases hx
theorem iH {p:Prop} (h:p:=by first|rfl|(simp only[AV.gives,AV.ren,AV.give,D.un,D.uns,Ai,Am,List.nil_append,List.append_nil,List.cons_append,At,A5,Cm,Bm,A4,Cf,Ck,Cn,Bp,C7,Be,Tr.cellss_un,iG,iF];first|done|rfl)):p:=h
structure gnsZ (l:List Gn):Prop where
 n:l.length≤100000
 z:∀g∈l,Gn.zz g
 e:(l.map gnE).flatten.length≤90000000
def Km (l:List Gn):Bool:= !l.isEmpty&&l.all gnW
theorem Um (l:List Gn) (hz:gnsZ l):Ac Tryz.prog 70 [.d (Ch l)] (fun r=>r=bv (Km l)):=by
 obtain⟨hl,hs,-⟩:=hz
 unfold Km
 refine acQ 19 Tryz.func70 rfl rfl fun _ _ _=> ?_
 (all_goals(conv=>whnf))
 refine Az (fun i:Nat=>i≤l.length∧(l.take i).all gnW=true) (fun i=>l.length-i) (fun i=>⟨[(0,.d (Ch l)),(3,iv i)],[],[]⟩) 0 ⟨by omega,rfl⟩ leQ ?_
 rintro i ⟨hi,ha⟩
 by_cases hik:i<l.length
 ·have gi:decide ((i:Int)<l.length)=true:=decide_eq_true (by omega)
  obtain⟨x,hg⟩:∃p,l[i]?=some p:=⟨_,Ak hik⟩
  have hV:=tE x (hs x (Bk hg))
  cases h1:gnW x
  ·rw[h1] at hV
   rw[tI gnW hg h1,Bool.and_false]
   (repeat'((conv=>whnf);first|refine zP ?_|refine Ab ?_|refine NIdx.tab (fun _=>rfl) hg ?_|refine Aa hV iH ?_|exact zE))
  ·rw[h1] at hV
   (repeat'((conv=>whnf);first|refine zP ?_|refine Ae ?_|refine NIdx.tab (fun _=>rfl) hg ?_|refine Aa hV iH ?_|(with_reducible refine NInt.i64 ?_)));(all_goals(conv=>whnf))
   refine⟨i+1,⟨by omega,Eo gnW hg h1 ha⟩,by omega,?_⟩
   exact leQ
 ·have gi:decide ((i:Int)<l.length)=false:=decide_eq_false (by omega)
  obtain rfl:i=l.length:=by omega
  rw[List.take_length] at ha
  rw[ha,Bool.and_true,show(!l.isEmpty)=decide ((l.length:Int)>0) by cases l with|nil=>rfl|cons a r=>exact(decide_eq_true (by simp only[Ag];omega)).symm]
  (repeat'((conv=>whnf);refine zN ?_));(all_goals(conv=>whnf))
  all_goals exact zE
theorem E7 (c n:Nat) (k:Bool) (l:List UInt8):l.length+2≤(Ao c n k l).length:=by
 have:=mT l.length
 unfold Ao;rw[Nn];omega
theorem Nt {α:Type} (f:α→List UInt8) (k:Nat):∀{l:List α},(∀x∈l,k≤(f x).length)→k*l.length≤(l.map f).flatten.length
 |[],_=>by simp
 |x::r,h=>by
  have h1:=h x (by simp)
  have h2:=Nt f k (l:=r) fun y hy=>h y (by simp[hy])
  rw[List.map_cons,List.flatten_cons,Aj,Ag,Nat.mul_add];omega
theorem Un {a:Att} (h:Ht a=true):a.sm∧(atE a).length≤212+a.val.length:=by
 unfold Ht at h
 simp only[Ap,decide_eq_true_eq] at h
 obtain⟨h1,h2⟩:=h
 have k1:=gH a.oid
 have k2:=A2 0 6 false (Cd a.oid) (by omega)
 have k3:=A2 0 16 true (Ao 0 6 false (Cd a.oid)++a.val) (by rw[Aj];omega)
 rw[Aj] at k3
 exact⟨⟨by omega,by omega⟩,by unfold atE;omega⟩
theorem Sl:∀{r:List Att},r.all Ht=true→(r.map atE).flatten.length≤212*r.length+Jr r
 |[],_=>by simp[Jr]
 |a::r,h=>by
  rw[List.all_cons,Ap] at h
  have h1:=(Un h.1).2
  have h2:=Sl h.2
  unfold Jr at h2⊢
  rw[List.map_cons,List.flatten_cons,Aj,List.map_cons,List.sum_cons,Ag];omega
theorem Mh {r:List Att} (h:Dp r=true):rdnZ r∧(C8 r).length≤1702+Jr r:=by
 obtain⟨h1,h2,h3⟩:=Gw h
 have h4:=Sl h2
 have h5:=A2 0 17 true (r.map atE).flatten (by omega)
 exact⟨⟨by omega,fun a ha=>(Un (List.all_eq_true.1 h2 a ha)).1,by omega⟩,by unfold C8;omega⟩
theorem Ph:∀{n:List (List Att)},n.all Dp=true→(n.map C8).flatten.length≤1702*n.length+Ir n
 |[],_=>by simp[Ir]
 |a::r,h=>by
  rw[List.all_cons,Ap] at h
  have h1:=(Mh h.1).2
  have h2:=Ph h.2
  unfold Ir at h2⊢
  rw[List.map_cons,List.flatten_cons,Aj,List.map_cons,List.sum_cons,Ag];omega
theorem Z7 {n:List (List Att)} (h:Fr n=true):nmZ n∧(nmE n).length≤19026:=by
 obtain⟨h1,h2,h3⟩:=H6 h
 have h4:=Ph h2
 have h5:=A2 0 16 true (n.map C8).flatten (by omega)
 exact⟨⟨by omega,fun r hr=>(Mh (List.all_eq_true.1 h2 r hr)).1,by omega⟩,by unfold nmE;omega⟩
theorem iI {g:Gn} (h:Is g=true):g.mid∧(gnE g).length≤23392:=by
 obtain⟨h1,h2,h3,h4,h5,h6⟩:=J9 h
 obtain⟨n1,n2⟩:=Z7 h4
 have hz:g.zz:=⟨by omega,by omega,by omega,n1,by omega,by omega⟩
 have hc:=tG hz (by omega)
 have:=A2 2 g.k.toNat (Dt g.k) ((Gq g).getD []) (by omega)
 exact⟨⟨hz.s,by omega⟩,by unfold gnE;omega⟩
theorem Sm {l:List Gn} (h:Dw l=true):l.length≤8∧gnsM l∧(l.map gnE).flatten.length≤187136:=by
 obtain⟨h1,h2,-⟩:=S5 h
 have h3:∀l:List Gn,l.all Is=true→(l.map gnE).flatten.length≤23392*l.length:=by
  intro l
  induction l with
  |nil=>simp
  |cons a r ih=>
   intro h
   rw[List.all_cons,Ap] at h
   have h1:=(iI h.1).2
   have h2:=ih h.2
   rw[List.map_cons,List.flatten_cons,Aj,Ag];omega
 have h4:=h3 l h2
 exact⟨h1,⟨by omega,fun g hg=>(iI (List.all_eq_true.1 h2 g hg)).1,by omega⟩,by omega⟩
theorem EK {a:Att} (h:atV a=true) (hl:(atE a).length≤400000):a.sm∧4≤(atE a).length:=by
 obtain⟨h1,-⟩:=Wk h
 have h3:=R2 h1
 have h4:=E7 0 6 false (Cd a.oid)
 have h5:=E7 0 16 true (Ao 0 6 false (Cd a.oid)++a.val)
 rw[Aj] at h5
 have e:(atE a).length=(Ao 0 16 true (Ao 0 6 false (Cd a.oid)++a.val)).length:=rfl
 exact⟨⟨by omega,by omega⟩,by omega⟩
theorem CL {r:List Att} (h:Ea r=true) (hl:(C8 r).length≤400000):rdnZ r∧4≤(C8 r).length:=by
 obtain⟨h0,h1,-⟩:=Wl h
 have h2:=E7 0 17 true (r.map atE).flatten
 have e:(C8 r).length=(Ao 0 17 true (r.map atE).flatten).length:=rfl
 have h3:∀a∈r,a.sm∧4≤(atE a).length:=fun a ha=>by
  have:=Kj (List.mem_map_of_mem (f:=atE) ha)
  exact EK (List.all_eq_true.1 h1 a ha) (by omega)
 have h4:=Nt atE 4 fun a ha=>(h3 a ha).2
 have h5:1≤r.length:=by cases r with|nil=>exact absurd rfl h0|cons _ _=>simp
 exact⟨⟨by omega,fun a ha=>(h3 a ha).1,by omega⟩,by omega⟩
theorem EL {n:List (List Att)} (h:nmV n=true) (hl:(nmE n).length≤400000):nmZ n:=by
 have h2:=E7 0 16 true (n.map C8).flatten
 have e:(nmE n).length=(Ao 0 16 true (n.map C8).flatten).length:=rfl
 have h3:∀r∈n,rdnZ r∧4≤(C8 r).length:=fun r hr=>by
  have:=Kj (List.mem_map_of_mem (f:=C8) hr)
  exact CL (List.all_eq_true.1 h r hr) (by omega)
 have h4:=Nt C8 4 fun r hr=>(h3 r hr).2
 exact⟨by omega,fun r hr=>(h3 r hr).1,by omega⟩
theorem tJ {k:Int} {l:List UInt8} (h:An k l=true):l.length≤4*(chS k l).length:=by
 have:=tF k (chS k l)
 rwa[(Sh h).2.1] at this
theorem tK {k:Int} {l:List UInt8} (h:An k l=true):l.length≤4*(txE k l).length:=by
 have h1:=tJ h
 have h2:=E7 0 k.toNat false (chS k l)
 unfold txE;omega
theorem yA {g:Gn} (h:gnW g=true) (hl:(gnE g).length≤400000):g.mid:=by
 obtain⟨h1,-,⟨c,h3⟩,h4⟩:=(P9 g).1 h
 have hc:c.length≤400000:=by
  have:=E7 2 g.k.toNat (Dt g.k) ((Gq g).getD [])
  have e:(gnE g).length=(Ao 2 g.k.toNat (Dt g.k) ((Gq g).getD [])).length:=rfl
  rw[h3] at this e
  have e2:((some c).getD [])=c:=rfl
  rw[e2] at this e;omega
 refine⟨?_,by rw[h3];show c.length≤_;omega⟩
 obtain⟨m,hm,hk⟩:=Ot h3
 obtain⟨k,oid,tx,by',nm,ak,av,pk,pv⟩:=g
 rw[Uj] at h1
 obtain⟨a1,a2,a3,a4,a5⟩:=h1
 simp only at hk a1 a2 a3 a4 a5
 subst hk
 unfold Gq at h3
 simp only at h3
 have l0:([]:List UInt8).length=0:=rfl
 rcases(by omega:m=0∨m=1∨m=2∨m=3∨m=4∨m=5∨m=6∨m=7∨m=8) with rfl|rfl|rfl|rfl|rfl|rfl|rfl|rfl|rfl
 ·obtain rfl:tx=[]:=by simpa using a2
  obtain rfl:nm=[]:=by simpa using a4
  obtain⟨⟨rfl,rfl⟩,rfl,rfl⟩:(ak=0∧av=[])∧pk=0∧pv=[]:=by simpa using a5
  rw[if_pos (by rfl)] at h3
  by_cases ho:E0 oid=true
  ·rw[if_pos ho] at h3
   obtain rfl:=Option.some.inj h3
   have:=R2 ho
   have:=E7 0 6 false (Cd oid)
   have:=E7 2 0 true by'
   rw[Aj] at hc
   exact⟨by show oid.length≤_;omega,by simp,by show by'.length≤_;omega,Le,by simp,by simp⟩
  ·rw[if_neg ho] at h3;cases h3
 case inr.inr.inr.inl=>
  obtain rfl:oid=[]:=by simpa using a1
  obtain rfl:tx=[]:=by simpa using a2
  obtain rfl:nm=[]:=by simpa using a4
  obtain⟨⟨rfl,rfl⟩,rfl,rfl⟩:(ak=0∧av=[])∧pk=0∧pv=[]:=by simpa using a5
  rw[if_neg (by decide),if_neg (by decide),if_pos (by decide)] at h3
  obtain rfl:=Option.some.inj h3
  exact⟨by simp,by simp,by show by'.length≤_;omega,Le,by simp,by simp⟩
 case inr.inr.inr.inr.inl=>
  obtain rfl:oid=[]:=by simpa using a1
  obtain rfl:tx=[]:=by simpa using a2
  obtain rfl:by'=[]:=by simpa using a3
  obtain⟨⟨rfl,rfl⟩,rfl,rfl⟩:(ak=0∧av=[])∧pk=0∧pv=[]:=by simpa using a5
  rw[if_neg (by decide),if_neg (by decide),if_neg (by decide),if_pos (by rfl)] at h3
  by_cases ho:nmV nm=true
  ·rw[if_pos ho] at h3
   obtain rfl:=Option.some.inj h3
   exact⟨by simp,by simp,by simp,EL ho hc,by simp,by simp⟩
  ·rw[if_neg ho] at h3;cases h3
 case inr.inr.inr.inr.inr.inl=>
  obtain rfl:oid=[]:=by simpa using a1
  obtain rfl:tx=[]:=by simpa using a2
  obtain rfl:by'=[]:=by simpa using a3
  obtain rfl:nm=[]:=by simpa using a4
  rw[if_neg (by decide),if_neg (by decide),if_neg (by decide),if_neg (by decide),if_pos (by rfl)] at h3
  unfold Zu at h3
  simp only at h3
  by_cases hh:((zT ak av||An ak av)&&An pk pv)=true
  ·rw[if_pos hh] at h3
   obtain rfl:=Option.some.inj h3
   rw[Ap,Bool.or_eq_true] at hh
   have k1:=tK hh.2
   have k2:=E7 2 1 true (txE pk pv)
   rw[Aj] at hc
   refine⟨by simp,by simp,by simp,Le,?_,by show pv.length≤_;omega⟩
   show av.length≤_
   by_cases hz:zT ak av=true
   ·rw[(eB.1 hz).2];simp
   ·rw[if_neg hz] at hc
    have k3:=tK (hh.1.resolve_left hz)
    have k4:=E7 2 0 true (txE ak av)
    omega
  ·rw[if_neg hh] at h3;cases h3
 case inr.inr.inr.inr.inr.inr.inr.inl=>
  obtain rfl:oid=[]:=by simpa using a1
  obtain rfl:tx=[]:=by simpa using a2
  obtain rfl:nm=[]:=by simpa using a4
  obtain⟨⟨rfl,rfl⟩,rfl,rfl⟩:(ak=0∧av=[])∧pk=0∧pv=[]:=by simpa using a5
  rw[if_neg (by decide),if_neg (by decide),if_pos (by decide)] at h3
  obtain rfl:=Option.some.inj h3
  exact⟨by simp,by simp,by show by'.length≤_;omega,Le,by simp,by simp⟩
 case inr.inr.inr.inr.inr.inr.inr.inr=>
  obtain rfl:tx=[]:=by simpa using a2
  obtain rfl:by'=[]:=by simpa using a3
  obtain rfl:nm=[]:=by simpa using a4
  obtain⟨⟨rfl,rfl⟩,rfl,rfl⟩:(ak=0∧av=[])∧pk=0∧pv=[]:=by simpa using a5
  rw[if_neg (by decide),if_neg (by decide),if_neg (by decide),if_neg (by decide),if_neg (by decide),if_pos (by rfl)] at h3
  by_cases ho:E0 oid=true
  ·rw[if_pos ho] at h3
   obtain rfl:=Option.some.inj h3
   have:=R2 ho
   exact⟨by show oid.length≤_;omega,by simp,by simp,Le,by simp,by simp⟩
  ·rw[if_neg ho] at h3;cases h3
 all_goals
  obtain rfl:oid=[]:=by simpa using a1
  obtain rfl:by'=[]:=by simpa using a3
  obtain rfl:nm=[]:=by simpa using a4
  obtain⟨⟨rfl,rfl⟩,rfl,rfl⟩:(ak=0∧av=[])∧pk=0∧pv=[]:=by simpa using a5
  rw[if_neg (by decide),if_pos (by decide)] at h3
  by_cases ho:An 22 tx=true
  ·rw[if_pos ho] at h3
   obtain rfl:=Option.some.inj h3
   have:=tJ ho
   exact⟨by simp,by show tx.length≤_;omega,by simp,Le,by simp,by simp⟩
  ·rw[if_neg ho] at h3;cases h3
theorem tL {l:List Gn} (h:l.all gnW=true) (hl:(l.map gnE).flatten.length≤400000):gnsM l:=by
 have hm:∀g∈l,g.mid:=fun g hg=>by
  have:=Kj (List.mem_map_of_mem (f:=gnE) hg)
  exact yA (List.all_eq_true.1 h g hg) (by omega)
 have h4:=Nt gnE 2 (l:=l) fun g _=>by
  have:=E7 2 g.k.toNat (Dt g.k) ((Gq g).getD [])
  unfold gnE;omega
 exact⟨by omega,hm,by omega⟩
def tM (g:Gn):List D:=[iD g.k,sD g.oid,sD g.tx,Af true g.by',Ue g.nm,iD g.ak,sD g.av,iD g.pk,sD g.pv]
def FB (l:List Gn):D:=Ey true 9 tM l
theorem yB (g:Gn):D.uns (tM g)=gnC g:=by simp only[tM,gnC,D.uns,Ai,Bp,D.un]
theorem yC (l:List Gn):D.uns (l.flatMap tM)=l.flatMap gnC:=by
 induction l with
 |nil=>rfl
 |cons g r ih=>rw[List.flatMap_cons,D.uns_app,yB,ih,List.flatMap_cons]
theorem yD (l:List Gn):(FB l).un=Ch l:=by
 show D.sl false l.length 9 (D.uns (l.flatMap tM))=_
 rw[yC];rfl
theorem iJ {l:List Gn} (h:∀g∈l,g.mid):Wt l=Km l:=by
 unfold Wt Km
 congr 1
 induction l with
 |nil=>rfl
 |cons a r ih=>rw[List.all_cons,List.all_cons,sP (h a (by simp)),ih fun g hg=>h g (by simp[hg])]
theorem mU (g:Gn) (h:g.mid):Ac Tryz.prog 31 [gnA g] (fun r=>r=Oq (gnW g) (gnE g)):=by
 have hM:=Sg g h.s h.c
 rwa[sP h] at hM
theorem Sn (l:List Gn) (h:gnsM l):Ac Tryz.prog 48 [.d (Ch l)] (fun r=>r=Oq (Km l) (Zx l)):=by
 have hM:=Pg l h
 rwa[iJ h.m] at hM
theorem So (l:List Gn) (h:gnsM l):Ac Tryz.prog 52 [.d (Ch l)] (fun r=>r=bv (Km l)):=by
 have hM:=Zy l h
 rwa[iJ h.m] at hM
theorem yE {g h:Gn} (hg:gnW g=true) (hh:gnW h=true) (mg:g.mid) (mh:h.mid) (e:gnE g=gnE h):g=h:=by
 have h1:=Ns hg mg
 rw[e,Ns hh mh] at h1
 exact(Option.some.inj h1).symm
theorem CM {g:Gn} (h:gnW g=true) (hs:g.mid):∃t:Tv,t.ok∧gnE g=t.enc:=by
 obtain⟨-,-,⟨c,h3⟩,-⟩:=(P9 g).1 h
 obtain⟨n,hn,hk⟩:=Ot h3
 exact⟨⟨2,g.k.toNat,Dt g.k,(Gq g).getD []⟩,⟨by show(2:Nat)≤3;omega,by show g.k.toNat≤30;omega,by have:=hs.c;show((Gq g).getD []).length≤_;omega⟩,rfl⟩
def gpS:List (List UInt8)→Option (List Gn)
 |[]=>some []
 |p::r=>match Se p with
  |none=>none
  |some g=>(gpS r).map (g:: ·)
def gpL (b:List UInt8):List El→Option (List Gn)×Nat×Nat
 |[]=>(some [],0,0)
 |x::r=>match Se (elO b x) with
  |none=>(none,(Zv (elO b x)).1,x.at'+(Zv (elO b x)).2)
  |some g=>match gpL b r with
   |(some gs,_)=>(some (g::gs),0,0)
   |(none,p)=>(none,p)
theorem tN (b:List UInt8):∀l:List El,(gpL b l).1.isSome=true→(gpL b l).2=(0,0)
 |[],_=>rfl
 |x::r,h=>by
  rw[gpL] at h⊢
  cases hv:Se (elO b x) with
  |none=>rw[hv] at h;cases h
  |some m=>
   rw[hv] at h
   cases hp:gpL b r with
   |mk o p=>rw[hp] at h;cases o with
    |none=>cases h
    |some ms=>rfl
theorem iK (b:List UInt8):∀l:List El,(gpL b l).1=gpS (l.map (elO b))
 |[]=>rfl
 |x::r=>by
  have ih:=iK b r
  rw[gpL,List.map_cons,gpS]
  cases hv:Se (elO b x) with
  |none=>rfl
  |some m=>
   simp only
   rw[←ih]
   cases hp:gpL b r with
   |mk o p=>cases o<;>rfl
theorem iL:∀{v:List Gn},v.all gnW=true→(∀m∈v,m.mid)→gpS (v.map gnE)=some v
 |[],_,_=>rfl
 |m::r,h,hs=>by
  rw[List.all_cons,Ap] at h
  rw[List.map_cons,gpS,Ns h.1 (hs m (by simp)),iL h.2 fun k hk=>hs k (by simp[hk])];rfl
def yF (b:List UInt8):Option (List Gn)×Nat×Nat:=
 if(A6 b 0 16).code≠0 then(none,(A6 b 0 16).code,(A6 b 0 16).off) else if(A6 b 0 16).l=[] then(none,1,b.length) else gpL b (A6 b 0 16).l
theorem CN {v:List Gn} (h:v.all gnW=true) (hs:gnsM v):∃ts:List Tv,(∀t∈ts,t.ok)∧v.map gnE=ts.map Tv.enc:=
 P6 fun p hp=>by
  obtain⟨m,hm,rfl⟩:=List.mem_map.1 hp
  exact CM (List.all_eq_true.1 h m hm) (hs.m m hm)
theorem yG {v:List Gn} (h0:v≠[]) (h:v.all gnW=true) (hs:gnsM v):yF (Zx v)=(some v,0,0):=by
 obtain⟨ts,t1,t2⟩:=CN h hs
 have hfl:(v.map gnE).flatten=Dg ts:=by rw[t2,Np]
 have:=hs.e
 obtain⟨q,e1,e2⟩:=Lc (c:=0) (n:=16) ts (by omega) (by omega) t1 (by rw[←hfl];omega)
 have hf:=iK (Ao 0 16 true (Dg ts)) (els q ts)
 rw[e2,←t2,iL h hs.m] at hf
 unfold yF Zx
 rw[hfl,e1,if_neg (by simp),if_neg (by
  intro e
  have:=congrArg List.length e
  rw[gP] at this
  have h3:=congrArg List.length t2
  rw[List.length_map,List.length_map] at h3
  exact h0 (List.eq_nil_of_length_eq_zero (by rw[h3];exact this)))]
 have hz:=tN (Ao 0 16 true (Dg ts)) (els q ts) (by rw[hf];rfl)
 exact Prod.ext hf hz
theorem mV {g:Gn} {n:Nat} {k:Bool} {c b:List UInt8} (h1:Gq g=some c) (h2:g.k=n) (h3:Dt n=k) (h4:c.length<128) (h5:UInt8.ofNat (idN 2 k n)::UInt8.ofNat c.length::c=b):gnE g=b:=by
 unfold gnE
 rw[h1,h2,h3,show(some c).getD []=c from rfl,Int.toNat_natCast,D4 _ _ _ _ h4];exact h5
end Go.Proofs.YtaoahmplnckhpaaGreatDoor
