/- MT: the texts Rz R13P GenS GenW GenV Awk13, one behind the other. No condition but what each lemma says. -/
import Derived.Test.YtjakkpcpommojaaGreatDoorMS
import Derived.Test.YtjakkpcpommojaaGreatDoorMM
import Derived.Test.YtjakkpcpommojaaGreatDoorMI
import Derived.Test.YtjakkpcpommojaaGreatDoorMH
import Derived.Test.YtjakkpcpommojaaGreatDoorME
import Derived.Test.YtjakkpcpommojaaGreatDoorMR
set_option maxRecDepth 100000
set_option maxHeartbeats 16000000
namespace Go.Proofs.YtjakkpcpommojaaGreatDoor
open Go.RowKit
theorem yS (k:Int) (c:List UInt8):(Eo k c).length≤4*c.length:=by
 unfold Eo
 split
 ·simp
 split
 ·unfold Gu
  split
  ·omega
  ·have:=Q8 (Ao k).toNat c (c.length/(Ao k).toNat)
   have:=Nat.div_le_self c.length (Ao k).toNat
   omega
 ·simp
theorem My:nmZ []:=⟨by simp,by simp,by simp⟩
theorem yT {g:Gn} (h:g.zz) (hn:(nmE g.nm).length≤200000):((D8 g).getD []).length≤g.oid.length+g.by'.length+4*g.tx.length+(nmE g.nm).length+4*g.av.length+4*g.pv.length+60:=by
 have h1:=mN g.oid
 have:=h.o;have:=h.t;have:=h.b;have:=h.a;have:=h.p
 unfold D8
 split
 ·split
  ·have h6:=Aq 0 6 false (Bm g.oid) (by omega)
   have h7:=Aq 2 0 true g.by' (by omega)
   show(_++_:List UInt8).length≤_
   rw[List.length_append];omega
  ·simp
 split
 ·split
  ·rename_i hv
   have:=G7 hv
   show(chS 22 g.tx).length≤_
   omega
  ·simp
 split
 ·show g.by'.length≤_;omega
 split
 ·split
  ·show(nmE g.nm).length≤_;omega
  ·simp
 split
 ·unfold Ob
  split
  ·rename_i hv
   rw[Bool.and_eq_true] at hv
   have l2:=He hv.2 h.p
   have x2:=Aq 2 1 true (txE g.pk g.pv) (by omega)
   show((if _ then _ else _)++_:List UInt8).length≤_
   rw[List.length_append]
   split
   ·simp;omega
   ·rename_i hz
    have hz:zT g.ak g.av=false:=by simpa using hz
    rw[hz,Bool.false_or] at hv
    have l1:=He hv.1 h.a
    have x1:=Aq 2 0 true (txE g.ak g.av) (by omega)
    omega
  ·simp
 split
 ·split
  ·show(Bm g.oid).length≤_;omega
  ·simp
 ·simp
def yU (g:Gn):List D:=[iD g.k,sD g.oid,sD g.tx,Ag false g.by',Xl g.nm,iD g.ak,sD g.av,iD g.pk,sD g.pv]
def JY (l:List Gn):D:=Er true 9 yU l
theorem EL (g:Gn):D.uns (yU g)=gnC g:=by simp only[yU,gnC,D.uns,Aj,A9,D.un]
theorem D.uns_app (a b:List D):D.uns (a++b)=D.uns a++D.uns b:=by
 induction a with
 |nil=>rfl
 |cons x r ih=>show D.un x::D.uns (r++b)=D.un x::(D.uns r++D.uns b);rw[ih]
theorem aD (l:List Gn):D.uns (l.flatMap yU)=l.flatMap gnC:=by
 induction l with
 |nil=>rfl
 |cons g r ih=>rw[List.flatMap_cons,D.uns_app,EL,ih,List.flatMap_cons]
theorem K3 (l:List Gn):(JY l).un=E4 l:=by
 show D.sl false l.length 9 (D.uns (l.flatMap yU))=_
 rw[aD];rfl
theorem yV {α:Type} (f:α→Bool) {l:List α} {i:Nat} {x:α} (hg:l[i]?=some x) (hx:f x=false):l.all f=false:=by
 cases hh:l.all f with
 |false=>rfl
 |true=>rw[List.all_eq_true.1 hh x (List.mem_of_getElem? hg)] at hx;cases hx
theorem Sm {p:Prop} (h:p:=by first|rfl|(simp only[AV.gives,AV.ren,AV.give,D.un,D.uns,Aj,Ak,List.nil_append,List.append_nil,List.cons_append,Ap,A0,Bk,A7,Ay,Bj,Bs,Bg,A9,Bx,A5,Tr.cellss_un,K3,aD];first|done|rfl)):p:=h
structure gnsZ (l:List Gn):Prop where
 n:l.length≤100000
 z:∀g∈l,Gn.zz g
 e:(l.map gnE).flatten.length≤90000000
def L7 (l:List Gn):Bool:= !l.isEmpty&&l.all gnW
theorem Xs (l:List Gn) (hz:gnsZ l):Ab Tryz.prog 46 [.d (E4 l)] (fun r=>r=bv (L7 l)):=by
 obtain⟨hl,hs,-⟩:=hz
 unfold L7
 refine acQ 19 Tryz.func46 rfl rfl fun _ _ _=> ?_
 (all_goals(conv=>whnf))
 refine Au (fun i:Nat=>i≤l.length∧(l.take i).all gnW=true) (fun i=>l.length-i) (fun i=>⟨[(0,.d (E4 l)),(3,iv i)],[],[]⟩) 0 ⟨by omega,rfl⟩ leQ ?_
 rintro i ⟨hi,ha⟩
 by_cases hik:i<l.length
 ·have gi:decide ((i:Int)<l.length)=true:=decide_eq_true (by omega)
  obtain⟨x,hg⟩:∃p,l[i]?=some p:=⟨_,List.getElem?_eq_getElem hik⟩
  have hV:=E6 x (hs x (List.mem_of_getElem? hg))
  cases h1:gnW x
  ·rw[h1] at hV
   rw[yV gnW hg h1,Bool.and_false]
   (repeat'((conv=>whnf);first|refine zP ?_|refine Ac ?_|refine NIdx.tab (fun _=>rfl) hg ?_|refine Aa hV Sm ?_|exact zE))
  ·rw[h1] at hV
   (repeat'((conv=>whnf);first|refine zP ?_|refine Ae ?_|refine NIdx.tab (fun _=>rfl) hg ?_|refine Aa hV Sm ?_|(with_reducible refine NInt.i64 ?_)));(all_goals(conv=>whnf))
   refine⟨i+1,⟨by omega,Gb gnW hg h1 ha⟩,by omega,?_⟩
   exact leQ
 ·have gi:decide ((i:Int)<l.length)=false:=decide_eq_false (by omega)
  obtain rfl:i=l.length:=by omega
  rw[List.take_length] at ha
  rw[ha,Bool.and_true,show(!l.isEmpty)=decide ((l.length:Int)>0) by cases l with|nil=>rfl|cons a r=>exact(decide_eq_true (by simp only[List.length_cons];omega)).symm]
  (repeat'((conv=>whnf);refine zN ?_));(all_goals(conv=>whnf))
  all_goals exact zE
theorem eW (x:UInt8) (l:List Gn) (hz:gnsZ l) (hv:l.all gnW=true):Ab Tryz.prog 41 [cv x.toNat,.d (E4 l)] (fun r=>r=A4 0 5 (Iz x (l.map gnE).flatten)):=by
 have hU:=Et x (l.map gnE) (by rw[List.length_map];have:=hz.n;omega) (by have:=hz.e;omega)
 obtain⟨hl,hs,-⟩:=hz
 refine acQ 30 Tryz.func41 rfl rfl fun _ _ _=> ?_
 (all_goals(conv=>whnf))
 refine Ba [.s 5 1 29] (fun i:Nat=>i≤l.length) (fun i=>l.length-i) (fun i=>⟨[(0,cv x.toNat),(1,.d (E4 l)),(5,Bx 5 1 29 Ct ((l.take i).map gnE)),(6,iv i)],[],[(5,(((l.take i).map gnE).length,1,29))]⟩) 0 (by omega) leQ ?_
 rintro i hi
 have hml:((l.take i).map gnE).length≤100000:=by rw[List.length_map,List.length_take];omega
 by_cases hik:i<l.length
 ·have gi:decide ((i:Int)<l.length)=true:=decide_eq_true (by omega)
  obtain⟨g,hg⟩:∃p,l[i]?=some p:=⟨_,List.getElem?_eq_getElem hik⟩
  have hM:=yR g (hs g (List.mem_of_getElem? hg))
  rw[List.all_eq_true.1 hv g (List.mem_of_getElem? hg)] at hM
  have hM:Ab Tryz.prog 69 [gnA g] (fun r=>r= .tup [A4 0 5 (gnE g),iv 0]):=hM
  have hs1:=Hp gnE hg
  generalize gnE g=e at hM hs1
  (repeat'((conv=>whnf);first|refine zP ?_|refine NIdx.tab (fun _=>rfl) hg ?_|refine Aa hM Sm ?_|refine A3 Ct e ?_|(with_reducible refine NInt.i64 ?_)));(all_goals(conv=>whnf))
  refine⟨i+1,by omega,by omega,?_⟩
  rw[hs1]
  exact leQ
 ·have gi:decide ((i:Int)<l.length)=false:=decide_eq_false (by omega)
  obtain rfl:i=l.length:=by omega
  rw[List.take_length]
  (repeat'((conv=>whnf);first|refine zN ?_|refine Aa hU Sm ?_|exact zE))
theorem Dd (c n:Nat) (k:Bool) (l:List UInt8):l.length+2≤(Ah c n k l).length:=by
 have:=sH l.length
 unfold Ah;rw[Hl];omega
theorem Pp {α:Type} (f:α→List UInt8) (k:Nat):∀{l:List α},(∀x∈l,k≤(f x).length)→k*l.length≤(l.map f).flatten.length
 |[],_=>by simp
 |x::r,h=>by
  have h1:=h x (by simp)
  have h2:=Pp f k (l:=r) fun y hy=>h y (by simp[hy])
  rw[List.map_cons,List.flatten_cons,List.length_append,List.length_cons,Nat.mul_add];omega
theorem Xt {a:Att} (h:I7 a=true):a.sm∧(atE a).length≤212+a.val.length:=by
 unfold I7 at h
 simp only[Bool.and_eq_true,decide_eq_true_eq] at h
 obtain⟨h1,h2⟩:=h
 have k1:=mN a.oid
 have k2:=Aq 0 6 false (Bm a.oid) (by omega)
 have k3:=Aq 0 16 true (Ah 0 6 false (Bm a.oid)++a.val) (by rw[List.length_append];omega)
 rw[List.length_append] at k3
 exact⟨⟨by omega,by omega⟩,by unfold atE;omega⟩
theorem U9:∀{r:List Att},r.all I7=true→(r.map atE).flatten.length≤212*r.length+Ld r
 |[],_=>by simp[Ld]
 |a::r,h=>by
  rw[List.all_cons,Bool.and_eq_true] at h
  have h1:=(Xt h.1).2
  have h2:=U9 h.2
  unfold Ld at h2⊢
  rw[List.map_cons,List.flatten_cons,List.length_append,List.map_cons,List.sum_cons,List.length_cons];omega
theorem Of {r:List Att} (h:D5 r=true):rdnZ r∧(C8 r).length≤1702+Ld r:=by
 obtain⟨h1,h2,h3⟩:=Hz h
 have h4:=U9 h2
 have h5:=Aq 0 17 true (r.map atE).flatten (by omega)
 exact⟨⟨by omega,fun a ha=>(Xt (List.all_eq_true.1 h2 a ha)).1,by omega⟩,by unfold C8;omega⟩
theorem Ru:∀{n:List (List Att)},n.all D5=true→(n.map C8).flatten.length≤1702*n.length+J5 n
 |[],_=>by simp[J5]
 |a::r,h=>by
  rw[List.all_cons,Bool.and_eq_true] at h
  have h1:=(Of h.1).2
  have h2:=Ru h.2
  unfold J5 at h2⊢
  rw[List.map_cons,List.flatten_cons,List.length_append,List.map_cons,List.sum_cons,List.length_cons];omega
theorem eX {n:List (List Att)} (h:Gq n=true):nmZ n∧(nmE n).length≤19026:=by
 obtain⟨h1,h2,h3⟩:=Jk h
 have h4:=Ru h2
 have h5:=Aq 0 16 true (n.map C8).flatten (by omega)
 exact⟨⟨by omega,fun r hr=>(Of (List.all_eq_true.1 h2 r hr)).1,by omega⟩,by unfold nmE;omega⟩
theorem nJ {g:Gn} (h:J6 g=true):g.mid∧(gnE g).length≤23392:=by
 obtain⟨h1,h2,h3,h4,h5,h6⟩:=Lu h
 obtain⟨n1,n2⟩:=eX h4
 have hz:g.zz:=⟨by omega,by omega,by omega,n1,by omega,by omega⟩
 have hc:=yT hz (by omega)
 have:=Aq 2 g.k.toNat (Dw g.k) ((D8 g).getD []) (by omega)
 exact⟨⟨hz.s,by omega⟩,by unfold gnE;omega⟩
theorem Va {l:List Gn} (h:Eb l=true):l.length≤8∧gnsM l∧(l.map gnE).flatten.length≤187136:=by
 obtain⟨h1,h2,-⟩:=V3 h
 have h3:∀l:List Gn,l.all J6=true→(l.map gnE).flatten.length≤23392*l.length:=by
  intro l
  induction l with
  |nil=>simp
  |cons a r ih=>
   intro h
   rw[List.all_cons,Bool.and_eq_true] at h
   have h1:=(nJ h.1).2
   have h2:=ih h.2
   rw[List.map_cons,List.flatten_cons,List.length_append,List.length_cons];omega
 have h4:=h3 l h2
 exact⟨h1,⟨by omega,fun g hg=>(nJ (List.all_eq_true.1 h2 g hg)).1,by omega⟩,by omega⟩
theorem LZ {a:Att} (h:atV a=true) (hl:(atE a).length≤400000):a.sm∧4≤(atE a).length:=by
 obtain⟨h1,-⟩:=Zx h
 have h3:=Uh h1
 have h4:=Dd 0 6 false (Bm a.oid)
 have h5:=Dd 0 16 true (Ah 0 6 false (Bm a.oid)++a.val)
 rw[List.length_append] at h5
 have e:(atE a).length=(Ah 0 16 true (Ah 0 6 false (Bm a.oid)++a.val)).length:=rfl
 exact⟨⟨by omega,by omega⟩,by omega⟩
theorem yW {r:List Att} (h:Eg r=true) (hl:(C8 r).length≤400000):rdnZ r∧4≤(C8 r).length:=by
 obtain⟨h0,h1,-⟩:=Sj h
 have h2:=Dd 0 17 true (r.map atE).flatten
 have e:(C8 r).length=(Ah 0 17 true (r.map atE).flatten).length:=rfl
 have h3:∀a∈r,a.sm∧4≤(atE a).length:=fun a ha=>by
  have:=Ho (List.mem_map_of_mem (f:=atE) ha)
  exact LZ (List.all_eq_true.1 h1 a ha) (by omega)
 have h4:=Pp atE 4 fun a ha=>(h3 a ha).2
 have h5:1≤r.length:=by cases r with|nil=>exact absurd rfl h0|cons _ _=>simp
 exact⟨⟨by omega,fun a ha=>(h3 a ha).1,by omega⟩,by omega⟩
theorem MA {n:List (List Att)} (h:nmV n=true) (hl:(nmE n).length≤400000):nmZ n:=by
 have h2:=Dd 0 16 true (n.map C8).flatten
 have e:(nmE n).length=(Ah 0 16 true (n.map C8).flatten).length:=rfl
 have h3:∀r∈n,rdnZ r∧4≤(C8 r).length:=fun r hr=>by
  have:=Ho (List.mem_map_of_mem (f:=C8) hr)
  exact yW (List.all_eq_true.1 h r hr) (by omega)
 have h4:=Pp C8 4 fun r hr=>(h3 r hr).2
 exact⟨by omega,fun r hr=>(h3 r hr).1,by omega⟩
theorem yX {k:Int} {l:List UInt8} (h:Al k l=true):l.length≤4*(chS k l).length:=by
 have:=yS k (chS k l)
 rwa[(Uz h).2.1] at this
theorem yY {k:Int} {l:List UInt8} (h:Al k l=true):l.length≤4*(txE k l).length:=by
 have h1:=yX h
 have h2:=Dd 0 k.toNat false (chS k l)
 unfold txE;omega
theorem EM {g:Gn} (h:gnW g=true) (hl:(gnE g).length≤400000):g.mid:=by
 obtain⟨h1,-,⟨c,h3⟩,h4⟩:=(Po g).1 h
 have hc:c.length≤400000:=by
  have:=Dd 2 g.k.toNat (Dw g.k) ((D8 g).getD [])
  have e:(gnE g).length=(Ah 2 g.k.toNat (Dw g.k) ((D8 g).getD [])).length:=rfl
  rw[h3] at this e
  have e2:((some c).getD [])=c:=rfl
  rw[e2] at this e;omega
 refine⟨?_,by rw[h3];show c.length≤_;omega⟩
 obtain⟨m,hm,hk⟩:=Qx h3
 obtain⟨k,oid,tx,by',nm,ak,av,pk,pv⟩:=g
 rw[Eh] at h1
 obtain⟨a1,a2,a3,a4,a5⟩:=h1
 simp only at hk a1 a2 a3 a4 a5
 subst hk
 unfold D8 at h3
 simp only at h3
 have l0:([]:List UInt8).length=0:=rfl
 rcases(by omega:m=0∨m=1∨m=2∨m=3∨m=4∨m=5∨m=6∨m=7∨m=8) with rfl|rfl|rfl|rfl|rfl|rfl|rfl|rfl|rfl
 ·obtain rfl:tx=[]:=by simpa using a2
  obtain rfl:nm=[]:=by simpa using a4
  obtain⟨⟨rfl,rfl⟩,rfl,rfl⟩:(ak=0∧av=[])∧pk=0∧pv=[]:=by simpa using a5
  rw[if_pos (by rfl)] at h3
  by_cases ho:Ej oid=true
  ·rw[if_pos ho] at h3
   obtain rfl:=Option.some.inj h3
   have:=Uh ho
   have:=Dd 0 6 false (Bm oid)
   have:=Dd 2 0 true by'
   rw[List.length_append] at hc
   exact⟨by show oid.length≤_;omega,by simp,by show by'.length≤_;omega,My,by simp,by simp⟩
  ·rw[if_neg ho] at h3;cases h3
 case inr.inr.inr.inl=>
  obtain rfl:oid=[]:=by simpa using a1
  obtain rfl:tx=[]:=by simpa using a2
  obtain rfl:nm=[]:=by simpa using a4
  obtain⟨⟨rfl,rfl⟩,rfl,rfl⟩:(ak=0∧av=[])∧pk=0∧pv=[]:=by simpa using a5
  rw[if_neg (by decide),if_neg (by decide),if_pos (by decide)] at h3
  obtain rfl:=Option.some.inj h3
  exact⟨by simp,by simp,by show by'.length≤_;omega,My,by simp,by simp⟩
 case inr.inr.inr.inr.inl=>
  obtain rfl:oid=[]:=by simpa using a1
  obtain rfl:tx=[]:=by simpa using a2
  obtain rfl:by'=[]:=by simpa using a3
  obtain⟨⟨rfl,rfl⟩,rfl,rfl⟩:(ak=0∧av=[])∧pk=0∧pv=[]:=by simpa using a5
  rw[if_neg (by decide),if_neg (by decide),if_neg (by decide),if_pos (by rfl)] at h3
  by_cases ho:nmV nm=true
  ·rw[if_pos ho] at h3
   obtain rfl:=Option.some.inj h3
   exact⟨by simp,by simp,by simp,MA ho hc,by simp,by simp⟩
  ·rw[if_neg ho] at h3;cases h3
 case inr.inr.inr.inr.inr.inl=>
  obtain rfl:oid=[]:=by simpa using a1
  obtain rfl:tx=[]:=by simpa using a2
  obtain rfl:by'=[]:=by simpa using a3
  obtain rfl:nm=[]:=by simpa using a4
  rw[if_neg (by decide),if_neg (by decide),if_neg (by decide),if_neg (by decide),if_pos (by rfl)] at h3
  unfold Ob at h3
  simp only at h3
  by_cases hh:((zT ak av||Al ak av)&&Al pk pv)=true
  ·rw[if_pos hh] at h3
   obtain rfl:=Option.some.inj h3
   rw[Bool.and_eq_true,Bool.or_eq_true] at hh
   have k1:=yY hh.2
   have k2:=Dd 2 1 true (txE pk pv)
   rw[List.length_append] at hc
   refine⟨by simp,by simp,by simp,My,?_,by show pv.length≤_;omega⟩
   show av.length≤_
   by_cases hz:zT ak av=true
   ·rw[(U2.1 hz).2];simp
   ·rw[if_neg hz] at hc
    have k3:=yY (hh.1.resolve_left hz)
    have k4:=Dd 2 0 true (txE ak av)
    omega
  ·rw[if_neg hh] at h3;cases h3
 case inr.inr.inr.inr.inr.inr.inr.inl=>
  obtain rfl:oid=[]:=by simpa using a1
  obtain rfl:tx=[]:=by simpa using a2
  obtain rfl:nm=[]:=by simpa using a4
  obtain⟨⟨rfl,rfl⟩,rfl,rfl⟩:(ak=0∧av=[])∧pk=0∧pv=[]:=by simpa using a5
  rw[if_neg (by decide),if_neg (by decide),if_pos (by decide)] at h3
  obtain rfl:=Option.some.inj h3
  exact⟨by simp,by simp,by show by'.length≤_;omega,My,by simp,by simp⟩
 case inr.inr.inr.inr.inr.inr.inr.inr=>
  obtain rfl:tx=[]:=by simpa using a2
  obtain rfl:by'=[]:=by simpa using a3
  obtain rfl:nm=[]:=by simpa using a4
  obtain⟨⟨rfl,rfl⟩,rfl,rfl⟩:(ak=0∧av=[])∧pk=0∧pv=[]:=by simpa using a5
  rw[if_neg (by decide),if_neg (by decide),if_neg (by decide),if_neg (by decide),if_neg (by decide),if_pos (by rfl)] at h3
  by_cases ho:Ej oid=true
  ·rw[if_pos ho] at h3
   obtain rfl:=Option.some.inj h3
   have:=Uh ho
   exact⟨by show oid.length≤_;omega,by simp,by simp,My,by simp,by simp⟩
  ·rw[if_neg ho] at h3;cases h3
 all_goals
  obtain rfl:oid=[]:=by simpa using a1
  obtain rfl:by'=[]:=by simpa using a3
  obtain rfl:nm=[]:=by simpa using a4
  obtain⟨⟨rfl,rfl⟩,rfl,rfl⟩:(ak=0∧av=[])∧pk=0∧pv=[]:=by simpa using a5
  rw[if_neg (by decide),if_pos (by decide)] at h3
  by_cases ho:Al 22 tx=true
  ·rw[if_pos ho] at h3
   obtain rfl:=Option.some.inj h3
   have:=yX ho
   exact⟨by simp,by show tx.length≤_;omega,by simp,My,by simp,by simp⟩
  ·rw[if_neg ho] at h3;cases h3
theorem Vb {l:List Gn} (h:l.all gnW=true) (hl:(l.map gnE).flatten.length≤400000):gnsM l:=by
 have hm:∀g∈l,g.mid:=fun g hg=>by
  have:=Ho (List.mem_map_of_mem (f:=gnE) hg)
  exact EM (List.all_eq_true.1 h g hg) (by omega)
 have h4:=Pp gnE 2 (l:=l) fun g _=>by
  have:=Dd 2 g.k.toNat (Dw g.k) ((D8 g).getD [])
  unfold gnE;omega
 exact⟨by omega,hm,by omega⟩
def kH (g:Gn):List D:=[iD g.k,sD g.oid,sD g.tx,Ag true g.by',Xl g.nm,iD g.ak,sD g.av,iD g.pk,sD g.pv]
def Lf (l:List Gn):D:=Er true 9 kH l
theorem Mz (g:Gn):D.uns (kH g)=gnC g:=by simp only[kH,gnC,D.uns,Aj,A9,D.un]
theorem M0 (l:List Gn):D.uns (l.flatMap kH)=l.flatMap gnC:=by
 induction l with
 |nil=>rfl
 |cons g r ih=>rw[List.flatMap_cons,D.uns_app,Mz,ih,List.flatMap_cons]
theorem Hg (l:List Gn):(Lf l).un=E4 l:=by
 show D.sl false l.length 9 (D.uns (l.flatMap kH))=_
 rw[M0];rfl
theorem nK {l:List Gn} (h:∀g∈l,g.mid):Z5 l=L7 l:=by
 unfold Z5 L7
 congr 1
 induction l with
 |nil=>rfl
 |cons a r ih=>rw[List.all_cons,List.all_cons,JD (h a (by simp)),ih fun g hg=>h g (by simp[hg])]
theorem Vc (l:List Gn) (h:gnsM l):Ab Tryz.prog 36 [.d (E4 l)] (fun r=>r=L6 (L7 l) (R0 l)):=by
 have hM:=Rs l h
 rwa[nK h.m] at hM
theorem Vd (l:List Gn) (h:gnsM l):Ab Tryz.prog 44 [.d (E4 l)] (fun r=>r=bv (L7 l)):=by
 have hM:=eH l h
 rwa[nK h.m] at hM
theorem JZ {g:Gn} (h:gnW g=true) (hs:g.mid):∃t:Tv,t.ok∧gnE g=t.enc:=by
 obtain⟨-,-,⟨c,h3⟩,-⟩:=(Po g).1 h
 obtain⟨n,hn,hk⟩:=Qx h3
 exact⟨⟨2,g.k.toNat,Dw g.k,(D8 g).getD []⟩,⟨by show(2:Nat)≤3;omega,by show g.k.toNat≤30;omega,by have:=hs.c;show((D8 g).getD []).length≤_;omega⟩,rfl⟩
def gpS:List (List UInt8)→Option (List Gn)
 |[]=>some []
 |p::r=>match Le p with
  |none=>none
  |some g=>(gpS r).map (g:: ·)
def gpL (b:List UInt8):List El→Option (List Gn)×Nat×Nat
 |[]=>(some [],0,0)
 |x::r=>match Le (elO b x) with
  |none=>(none,(Uw (elO b x)).1,x.at'+(Uw (elO b x)).2)
  |some g=>match gpL b r with
   |(some gs,_)=>(some (g::gs),0,0)
   |(none,p)=>(none,p)
def Ve (ms:List Gn):Option (List Gn)×Nat×Nat→Option (List Gn)×Nat×Nat
 |(some r,_)=>(some (ms++r),0,0)
 |(none,p)=>(none,p)
theorem Vf (b:List UInt8):∀l:List El,(gpL b l).1.isSome=true→(gpL b l).2=(0,0)
 |[],_=>rfl
 |x::r,h=>by
  rw[gpL] at h⊢
  cases hv:Le (elO b x) with
  |none=>rw[hv] at h;cases h
  |some m=>
   rw[hv] at h
   cases hp:gpL b r with
   |mk o p=>rw[hp] at h;cases o with
    |none=>cases h
    |some ms=>rfl
theorem sI (b:List UInt8) (l:List El):Ve [] (gpL b l)=gpL b l:=by
 have h:=Vf b l
 cases hp:gpL b l with
 |mk o p=>
  rw[hp] at h
  cases o with
  |none=>rfl
  |some ms=>have:=h rfl;simp only at this;subst this;rfl
theorem kI {b:List UInt8} {x:El} {r:List El} {m:Gn} (ms:List Gn) (hv:Le (elO b x)=some m):Ve ms (gpL b (x::r))=Ve (ms++[m]) (gpL b r):=by
 rw[gpL,hv]
 cases hp:gpL b r with
 |mk o p=>cases o with
  |none=>rfl
  |some l=>simp[Ve]
theorem aE (b:List UInt8):∀l:List El,(gpL b l).1=gpS (l.map (elO b))
 |[]=>rfl
 |x::r=>by
  have ih:=aE b r
  rw[gpL,List.map_cons,gpS]
  cases hv:Le (elO b x) with
  |none=>rfl
  |some m=>
   simp only
   rw[←ih]
   cases hp:gpL b r with
   |mk o p=>cases o<;>rfl
theorem nL {b:List UInt8}:∀{l:List El},(∀x∈l,x.at'≤x.stop∧x.stop≤b.length)→(gpL b l).1=none→(gpL b l).2.1≠0∧(gpL b l).2.2≤b.length
 |[],_,h=>by cases h
 |x::r,hx,h=>by
  have ih:=nL (b:=b) (l:=r) fun y hy=>hx y (by simp[hy])
  rw[gpL] at h⊢
  cases hv:Le (elO b x) with
  |none=>
   obtain⟨e1,e2⟩:=Z4 (elO b x)
   have:=Qv b x
   obtain⟨x1,x2⟩:=hx x (by simp)
   exact⟨e1,by show x.at'+_≤_;omega⟩
  |some m=>
   rw[hv] at h
   cases hp:gpL b r with
   |mk o p=>
    rw[hp] at h ih
    cases o with
    |none=>exact ih rfl
    |some ms=>cases h
theorem nM:∀{v:List Gn},v.all gnW=true→(∀m∈v,m.mid)→gpS (v.map gnE)=some v
 |[],_,_=>rfl
 |m::r,h,hs=>by
  rw[List.all_cons,Bool.and_eq_true] at h
  rw[List.map_cons,gpS,eP h.1 (hs m (by simp)),nM h.2 fun k hk=>hs k (by simp[hk])];rfl
theorem nO:∀{ps:List (List UInt8)} {v:List Gn},(∀p∈ps,p.length≤800000)→gpS ps=some v→v.all gnW=true∧ps=v.map gnE
 |[],v,_,h=>by
  rw[gpS] at h
  obtain rfl:=Option.some.inj h
  exact⟨rfl,rfl⟩
 |p::r,v,hl,h=>by
  rw[gpS] at h
  cases hv:Le p with
  |none=>rw[hv] at h;cases h
  |some m=>
   rw[hv] at h
   cases hr:gpS r with
   |none=>rw[hr] at h;cases h
   |some w=>
    rw[hr] at h
    obtain rfl:=Option.some.inj h
    obtain⟨k1,k2⟩:=xZ hv (hl p (by simp))
    obtain⟨k3,k4⟩:=nO (fun q hq=>hl q (by simp[hq])) hr
    exact⟨by rw[List.all_cons,k1,k3];rfl,by rw[List.map_cons,←k2,←k4]⟩
def aF (b:List UInt8):Option (List Gn)×Nat×Nat:=
 if(Aw b 0 16).code≠0 then(none,(Aw b 0 16).code,(Aw b 0 16).off) else if(Aw b 0 16).l=[] then(none,1,b.length) else gpL b (Aw b 0 16).l
def MU:Option (List Gn)×Nat×Nat→AV
 |(some gs,_)=> .tup [.d (Lf gs),erA 0 0]
 |(none,c,p)=> .tup [Ax,erA c p]
theorem nP (b:List UInt8) (hb:b.length≤800000):(∃v:List Gn,v≠[]∧v.all gnW=true∧b=R0 v∧aF b=(some v,0,0))∨(∃c o:Nat,c≠0∧o≤b.length∧aF b=(none,c,o)):=by
 unfold aF
 by_cases h1:(Aw b 0 16).code≠0
 ·rw[if_pos h1]
  exact .inr ⟨_,_,h1,Iq b 0 16,rfl⟩
 rw[if_neg h1]
 have h1':=Decidable.not_not.1 h1
 obtain⟨ts,t1,t2,-,-,-⟩:=Kc h1'
 have hlt:(Cm ts).length≤800000:=by
  have:=congrArg List.length t2
  unfold Ah at this
  rw[Hl] at this;omega
 obtain⟨q,e1,e2⟩:=Eu (c:=0) (n:=16) ts (by omega) (by omega) t1 (by omega)
 rw[←t2] at e1 e2
 rw[e1]
 by_cases h2:els q ts=[]
 ·rw[if_pos h2];exact .inr ⟨1,b.length,by omega,Nat.le_refl _,rfl⟩
 rw[if_neg h2]
 have hf:=aE b (els q ts)
 rw[e2] at hf
 have hoff:=nL (b:=b) (l:=els q ts) fun x hx=>by
  have:=Ds (b:=b) (c:=0) (n:=16) (x:=x) (by rw[e1];exact hx)
  omega
 have hz:=Vf b (els q ts)
 show(∃v:List Gn,v≠[]∧v.all gnW=true∧b=R0 v∧gpL b (els q ts)=(some v,0,0))∨(∃c o:Nat,c≠0∧o≤b.length∧gpL b (els q ts)=(none,c,o))
 cases hp:gpL b (els q ts) with
 |mk o p=>
  rw[hp] at hf hoff hz
  obtain⟨c,p⟩:=p
  simp only at hf hoff hz
  cases o with
  |none=>exact .inr ⟨c,p,(hoff rfl).1,(hoff rfl).2,rfl⟩
  |some v=>
   obtain⟨k1,k2⟩:=nO (fun p hp=>by
    have:=Ho hp
    rw[←Ef] at this;omega) hf.symm
   have hz:=hz rfl
   simp only[Prod.mk.injEq] at hz
   obtain⟨rfl,rfl⟩:=hz
   refine .inl ⟨v,?_,k1,?_,rfl⟩
   ·rintro rfl
    cases ts with
    |nil=>exact h2 rfl
    |cons t r=>simp at k2
   ·rw[t2]
    unfold R0
    rw[Ef,k2]
theorem KA {v:List Gn} (h:v.all gnW=true) (hs:gnsM v):∃ts:List Tv,(∀t∈ts,t.ok)∧v.map gnE=ts.map Tv.enc:=
 Mx fun p hp=>by
  obtain⟨m,hm,rfl⟩:=List.mem_map.1 hp
  exact JZ (List.all_eq_true.1 h m hm) (hs.m m hm)
theorem EN {v:List Gn} (h0:v≠[]) (h:v.all gnW=true) (hs:gnsM v):aF (R0 v)=(some v,0,0):=by
 obtain⟨ts,t1,t2⟩:=KA h hs
 have hfl:(v.map gnE).flatten=Cm ts:=by rw[t2,Ef]
 have:=hs.e
 obtain⟨q,e1,e2⟩:=Eu (c:=0) (n:=16) ts (by omega) (by omega) t1 (by rw[←hfl];omega)
 have hf:=aE (Ah 0 16 true (Cm ts)) (els q ts)
 rw[e2,←t2,nM h hs.m] at hf
 unfold aF R0
 rw[hfl,e1,if_neg (by simp),if_neg (by
  intro e
  have:=congrArg List.length e
  rw[Sh] at this
  have h3:=congrArg List.length t2
  rw[List.length_map,List.length_map] at h3
  exact h0 (List.eq_nil_of_length_eq_zero (by rw[h3];exact this)))]
 have hz:=Vf (Ah 0 16 true (Cm ts)) (els q ts) (by rw[hf];rfl)
 exact Prod.ext hf hz
theorem Pq {p:Prop} (h:p:=by first|rfl|(simp only[AV.gives,AV.ren,AV.give,D.un,D.uns,Aj,Ak,List.nil_append,List.append_nil,List.cons_append,Ap,A0,Bk,A7,Ay,Bj,Bs,Bg,A9,Bx,A5,Hg,Mz,M0,Du,Dv];first|done|rfl)):p:=h
theorem eZ (b:List UInt8) (hb:b.length≤800000):Ab Tryz.prog 114 [.d (Ag false b)] (fun r=>r=MU (aF b)):=by
 have hP:=H7 b 0 16 (by omega)
 have hin:=fun x=>Ds (b:=b) (c:=0) (n:=16) (x:=x)
 have hcn:=Ip b 0 16
 unfold aF
 generalize Aw b 0 16=R at hP hin hcn⊢
 by_cases h1:R.code≠0
 ·rw[if_pos h1]
  rw[lrA,if_pos h1] at hP
  have gc:((R.code:Int) !=0)=true:=by rw[bne_iff_ne];omega
  generalize R.code=c at hP gc
  generalize R.off=o at hP
  refine acQ 60 Tryz.func114 rfl rfl fun _ _ _=> ?_
  (repeat'((conv=>whnf);first|refine zP ?_|refine Aa hP Pq ?_|refine zF ?_|exact zE))
 rw[if_neg h1]
 rw[lrA,if_neg h1] at hP
 generalize R.l=l at hP hin hcn⊢
 by_cases h2:l=[]
 ·subst h2
  rw[if_pos rfl]
  refine acQ 60 Tryz.func114 rfl rfl fun _ _ _=> ?_
  (repeat'((conv=>whnf);first|refine Ac ?_|refine Ae ?_|refine Aa hP Pq ?_|exact zE))
 rw[if_neg h2]
 have gl:((l.length:Int)==0)=false:=by rw[beq_eq_false_iff_ne];intro h;exact h2 (List.eq_nil_of_length_eq_zero (by omega))
 have hd0:gpL b l=Ve [] (gpL b (l.drop 0)):=by rw[sI,List.drop_zero]
 generalize hQ:gpL b l=q at hd0⊢
 refine acQ 60 Tryz.func114 rfl rfl fun _ _ _=> ?_
 (repeat'((conv=>whnf);first|refine zN ?_|refine Ae ?_|refine Aa hP Pq ?_));(all_goals(conv=>whnf))
 refine Ba [.s 6 9 57] (fun z:Nat×List Gn=>z.1≤l.length∧z.2.length≤z.1∧q=Ve z.2 (gpL b (l.drop z.1))) (fun z=>l.length-z.1) (fun z=>⟨[(0,.d (Ag false b)),(3,.ptr 3 0),(6,Bx 6 9 57 kH z.2),(26,.d (cU l)),(27,iv l.length),(28,iv z.1)],[(3,[iv 0,iv 0])],[(6,(z.2.length,9,57))]⟩) (0,[]) ⟨by simp,by simp,hd0⟩ leQ ?_
 rintro⟨i,ms⟩ ⟨hi,hm,he⟩
 simp only at hi hm he
 by_cases hik:i<l.length
 ·have gi:decide ((i:Int)<l.length)=true:=decide_eq_true (by omega)
  obtain⟨x,hg⟩:∃p,l[i]?=some p:=⟨_,List.getElem?_eq_getElem hik⟩
  obtain⟨x1,x2,x3⟩:=hin x (List.mem_of_getElem? hg)
  have hel:=Sk b x
  have hO:=Uy (elO b x) (by omega)
  obtain⟨hc0,hof⟩:=Z4 (elO b x)
  rw[Mw hg] at he
  cases hp:Le (elO b x) with
  |none=>
   have bad:q=(none,(Uw (elO b x)).1,x.at'+(Uw (elO b x)).2):=by rw[he,gpL,hp];rfl
   rw[bad]
   rw[hp] at hO
   generalize Uw (elO b x)=e at hO hc0 hof
   obtain⟨c,o⟩:=e
   simp only at hc0 hof
   have hO:Ab Tryz.prog 92 [.d (Ag false (elO b x))] (fun r=>r= .tup [gnQ gz,erA c o]):=hO
   have gc:((c:Int) !=0)=true:=by rw[bne_iff_ne];omega
   unfold elO at hO
   (repeat'((conv=>whnf);first|refine zP ?_|refine NIdx.tab (fun _=>rfl) hg ?_|refine NSl.slice (x.at') (x.stop) ?_|refine Aa hO Pq ?_|(with_reducible refine NInt.i64 ?_)|refine zF ?_|exact zE))
  |some g=>
   rw[kI ms hp] at he
   rw[hp] at hO
   have hO:Ab Tryz.prog 92 [.d (Ag false (elO b x))] (fun r=>r= .tup [gnQ g,erA 0 0]):=hO
   unfold elO at hO
   (repeat'((conv=>whnf);first|refine zP ?_|refine Ae ?_|refine NIdx.tab (fun _=>rfl) hg ?_|refine NSl.slice (x.at') (x.stop) ?_|refine Aa hO Pq ?_|refine A3 kH g ?_|(with_reducible refine NInt.i64 ?_)));(all_goals(conv=>whnf))
   refine⟨(i+1,ms++[g]),⟨by show i+1≤_;omega,by simp;omega,he⟩,by show l.length-(i+1)<l.length-i;omega,?_⟩
   exact leQ
 ·have gi:decide ((i:Int)<l.length)=false:=decide_eq_false (by omega)
  obtain rfl:i=l.length:=by omega
  rw[List.drop_length,gpL] at he
  have he':q=(some ms,0,0):=by rw[he];simp[Ve]
  subst he'
  (repeat'((conv=>whnf);refine zN ?_));(all_goals(conv=>whnf))
  all_goals exact zE
theorem sJ {g:Gn} {n:Nat} {k:Bool} {c b:List UInt8} (h1:D8 g=some c) (h2:g.k=n) (h3:Dw n=k) (h4:c.length<128) (h5:UInt8.ofNat (idN 2 k n)::UInt8.ofNat c.length::c=b):gnE g=b:=by
 unfold gnE
 rw[h1,h2,h3,show(some c).getD []=c from rfl,Int.toNat_natCast,Cw _ _ _ _ h4];exact h5
end Go.Proofs.YtjakkpcpommojaaGreatDoor
