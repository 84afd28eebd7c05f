/- MR: the texts GenZ R11 R12 EqG T4 GenZ2, one behind the other. No condition but what each lemma says. -/
import Derived.Test.YtjakkpcpommojaaGreatDoorMP
import Derived.Test.YtjakkpcpommojaaGreatDoorMI
import Derived.Test.YtjakkpcpommojaaGreatDoorMQ
import Derived.Test.YtjakkpcpommojaaGreatDoorMM
import Derived.Test.YtjakkpcpommojaaGreatDoorME
set_option maxRecDepth 100000
set_option maxHeartbeats 16000000
namespace Go.Proofs.YtjakkpcpommojaaGreatDoor
open Go.RowKit
def Tr.c:Tr→Nat
 | .mk c _ _ _ _=>c
def Tr.k:Tr→Bool
 | .mk _ _ k _ _=>k
theorem U7 {p:Prop} (h:p:=by first|rfl|(simp only[AV.gives,AV.ren,AV.give,D.un,D.uns,Aj,Ak,List.nil_append,List.append_nil,List.cons_append,Ap,A0,Lw,Bx,A5,Xj,Tr.cellss_un,A7,Ay,Bs];first|done|rfl)):p:=h
theorem eU (a:Att) (ho:a.oid.length≤3500000) (hv:a.val.length≤1000000000):Ab Tryz.prog 105 [atA a] (fun r=>r=bv (atV a)):=by
 have hV:=Jm a.oid ho
 have hO:=N8 a.val hv
 unfold atV
 cases h:Ej a.oid
 ·rw[h] at hV
  refine acQ 11 Tryz.func105 rfl rfl fun _ _ _=> ?_
  (repeat'((conv=>whnf);first|refine Ae ?_|refine Aa hV rfl ?_|exact zE))
 ·rw[h] at hV
  rw[Bool.true_and]
  refine acQ 11 Tryz.func105 rfl rfl fun _ _ _=> ?_
  (repeat'((conv=>whnf);first|refine Ac ?_|refine Aa hV rfl ?_|refine Aa hO U7 ?_|exact zE))
theorem yJ (a:Att) (ho:a.oid.length≤3500000) (hv:a.val.length≤100000000):Ab Tryz.prog 128 [atA a] (fun r=>r=if atV a=true then .tup [A4 0 5 (atE a),iv 0] else .tup [Ax,iv 8]):=by
 have hV:=eU a ho (by omega)
 cases h:atV a
 ·rw[if_neg (by simp)]
  rw[h] at hV
  refine acQ 14 Tryz.func128 rfl rfl fun _ _ _=> ?_
  (repeat'((conv=>whnf);first|refine Ac ?_|refine Aa hV U7 ?_|exact zE))
 ·rw[if_pos rfl]
  rw[h] at hV
  have hO:=Um a.oid ho
  have k1:=Fs a.oid
  have k2:=Aq 0 6 false (Bm a.oid) (by omega)
  have hP:=Et 48 [Qr a.oid,a.val] (by simp) (by simp[Qr];omega)
  rw[show Iz 48 [Qr a.oid,a.val].flatten=atE a by simp only[List.flatten_cons,List.flatten_nil,List.append_nil];rfl] at hP
  have hP:Ab Tryz.prog 42 [cv 48,.d (C4 [Qr a.oid,a.val])] (fun r=>r=A4 0 5 (atE a)):=hP
  generalize Qr a.oid=ob at hO hP
  refine acQ 14 Tryz.func128 rfl rfl fun _ _ _=> ?_
  (repeat'((conv=>whnf);first|refine Ae ?_|refine Aa hV U7 ?_|refine Aa hO rfl ?_|refine Aa hP U7 ?_|refine zF ?_|exact zE))
structure Tr.at (t:Tr):Prop where
 o:(t.kid 0).v.length≤30000
 v:∀k,t.ks[1]?=some k→k.ok∧k.enc.length≤900000000
theorem yK (k:Int) (l:List UInt8) (hl:l.length≤16777216):Ab Tryz.prog 102 [txA k l] (fun r=>r=frS k l):=by
 have hE:=H0 k l hl
 unfold frS
 cases hv:Al k l
 ·rw[show Gh k l=[] by unfold Gh;rw[hv];rfl,show Nk k l=8 by unfold Nk;rw[hv];rfl] at hE
  rw[if_neg (by simp)]
  clear hv
  refine acQ 18 Tryz.func102 rfl rfl fun _ _ _=> ?_
  (repeat'((conv=>whnf);first|refine Ac ?_|refine Aa hE rfl ?_|exact zE))
 ·rw[show Gh k l=chS k l by unfold Gh;rw[hv];rfl,show Nk k l=0 by unfold Nk;rw[hv];rfl] at hE
  have hW4:Ao k≤4:=by unfold Ao;(repeat' split)<;>omega
  have hch:(chS k l).length≤4*l.length:=by
   have:=U6 (f:=Jt (Ao k)) (m:=4) (fun x=>Sw _ x hW4) (rns l)
   rw[P5 hv] at this
   have:=aB l (by unfold Al at hv;simp at hv;exact hv.1.1);omega
  have hk:¬Ao k<0:=by unfold Al at hv;simp at hv;omega
  rw[if_pos rfl]
  have hP:Ab Tryz.prog 66 [cv (UInt8.ofNat k.toNat).toNat,.d (Ag false (chS k l))] (fun r=>r=A4 0 5 (txE k l)):=by
   have:=C3 (UInt8.ofNat k.toNat) (chS k l) (by omega)
   rw[show Iz (UInt8.ofNat k.toNat) (chS k l)=txE k l from ?_] at this
   ·exact this
   ·unfold txE Ah;rw[show idN ((0:Nat):Int) false (k.toNat:Int)=k.toNat by rw[xI];simp]
  generalize chS k l=ch at hE hP
  generalize txE k l=e at hP⊢
  clear hv
  obtain⟨q,rfl⟩:∃q:Nat,k=q:=⟨k.toNat,by rcases Df k hk with rfl|rfl|rfl|rfl|rfl|rfl|rfl<;>rfl⟩
  rw[Int.toNat_natCast] at hP
  refine acQ 18 Tryz.func102 rfl rfl fun _ _ _=> ?_
  (repeat'((conv=>whnf);first|refine Ae ?_|refine Aa hE rfl ?_|(with_reducible refine Bd (q) ?_)|refine Aa hP U7 ?_|exact zE))
theorem Xq (k:Int) (l:List UInt8) (hl:l.length≤16777216):Ab Tryz.prog 111 [txA k l] (fun r=>r=bv (fiB k l)):=by
 have hV:=Hq k l hl
 unfold fiB
 cases hv:Al k l
 ·rw[hv] at hV
  clear hv
  refine acQ 19 Tryz.func111 rfl rfl fun _ _ _=> ?_
  (repeat'((conv=>whnf);first|refine Ac ?_|refine Aa hV rfl ?_|exact zE))
 ·have hk:¬Ao k<0:=by unfold Al at hv;simp at hv;omega
  rw[hv] at hV
  clear hv
  cases l with
  |nil=>
   refine acQ 19 Tryz.func111 rfl rfl fun _ _ _=> ?_
   (repeat'((conv=>whnf);first|refine Ac ?_|refine Ae ?_|refine Aa hV rfl ?_|exact zE))
  |cons x r=>
   have g:(x::r==[])=false:=rfl
   rw[g]
   rcases Df k hk with rfl|rfl|rfl|rfl|rfl|rfl|rfl
   all_goals
    refine acQ 19 Tryz.func111 rfl rfl fun _ _ _=> ?_
    (repeat'((conv=>whnf);first|refine zN ?_|refine Ac ?_|refine Ae ?_|refine Aa hV rfl ?_|exact zE))
theorem Fz {p:Prop} (h:p:=by first|rfl|(simp only[AV.gives,AV.ren,AV.give,D.un,D.uns,Aj,Ak,List.nil_append,List.append_nil,List.cons_append,Ap,A0,Lw,Bx,A5,Xj,Tr.cellss_un,A7,Ay,Bs,Bg,A9,mY,Xm];first|done|rfl)):p:=h
theorem U8 (r:List Att) (hz:rdnZ r) (hv:r.all atV=true):Ab Tryz.prog 97 [.d (Fq r)] (fun x=>x= .d (xJ (r.map atE))):=by
 obtain⟨hr,hs,he⟩:=hz
 refine acQ 26 Tryz.func97 rfl rfl fun _ _ _=> ?_
 (all_goals(conv=>whnf))
 refine Ba [.s 3 1 29] (fun i:Nat=>i≤r.length) (fun i=>r.length-i) (fun i=>⟨[(0,.d (Fq r)),(3,Bx 3 1 29 Ct ((r.take i).map atE)),(4,iv i)],[],[(3,(((r.take i).map atE).length,1,29))]⟩) 0 (by omega) leQ ?_
 rintro i hi
 have hml:((r.take i).map atE).length≤100000:=by rw[List.length_map,List.length_take];omega
 by_cases hik:i<r.length
 ·have gi:decide ((i:Int)<r.length)=true:=decide_eq_true (by omega)
  obtain⟨x,hg⟩:∃p,r[i]?=some p:=⟨_,List.getElem?_eq_getElem hik⟩
  have hx:=hs x (List.mem_of_getElem? hg)
  have hM:=yJ x (by have:=hx.o;omega) (by have:=hx.v;omega)
  rw[if_pos (List.all_eq_true.1 hv x (List.mem_of_getElem? hg))] at hM
  have hs1:=Hp atE hg
  generalize atE x=e at hM hs1
  (repeat'((conv=>whnf);first|refine zP ?_|refine NIdx.tab (fun _=>rfl) hg ?_|refine Aa hM Fz ?_|refine A3 Ct e ?_|(with_reducible refine NInt.i64 ?_)));(all_goals(conv=>whnf))
  refine⟨i+1,by omega,by omega,?_⟩
  rw[hs1]
  exact leQ
 ·have gi:decide ((i:Int)<r.length)=false:=decide_eq_false (by omega)
  obtain rfl:i=r.length:=by omega
  rw[List.take_length]
  (repeat'((conv=>whnf);refine zN ?_));(all_goals(conv=>whnf))
  all_goals exact zE
theorem Q0 (r:List Att) (hz:rdnZ r):Ab Tryz.prog 71 [.d (Fq r)] (fun x=>x=bv (Eg r)):=by
 obtain⟨hr,hs,he⟩:=hz
 have bad:r.all atV=false→Eg r=false:=fun h=>by unfold Eg;rw[h];simp
 refine acQ 24 Tryz.func71 rfl rfl fun _ _ _=> ?_
 (all_goals(conv=>whnf))
 refine Au (fun i:Nat=>i≤r.length∧(r.take i).all atV=true) (fun i=>r.length-i) (fun i=>⟨[(0,.d (Fq r)),(3,iv i)],[],[]⟩) 0 ⟨by omega,rfl⟩ leQ ?_
 rintro i ⟨hi,ha⟩
 by_cases hik:i<r.length
 ·have gi:decide ((i:Int)<r.length)=true:=decide_eq_true (by omega)
  obtain⟨x,hg⟩:∃p,r[i]?=some p:=⟨_,List.getElem?_eq_getElem hik⟩
  have hx:=hs x (List.mem_of_getElem? hg)
  have hV:=eU x (by have:=hx.o;omega) (by have:=hx.v;omega)
  cases h1:atV x
  ·rw[h1] at hV
   rw[bad (by
    cases hh:r.all atV with
    |false=>rfl
    |true=>rw[List.all_eq_true.1 hh x (List.mem_of_getElem? hg)] at h1;cases h1)]
   (repeat'((conv=>whnf);first|refine zP ?_|refine Ac ?_|refine NIdx.tab (fun _=>rfl) hg ?_|refine Aa hV Fz ?_|exact zE))
  ·rw[h1] at hV
   (repeat'((conv=>whnf);first|refine zP ?_|refine Ae ?_|refine NIdx.tab (fun _=>rfl) hg ?_|refine Aa hV Fz ?_|(with_reducible refine NInt.i64 ?_)));(all_goals(conv=>whnf))
   refine⟨i+1,⟨by omega,Gb atV hg h1 ha⟩,by omega,?_⟩
   exact leQ
 ·have gi:decide ((i:Int)<r.length)=false:=decide_eq_false (by omega)
  obtain rfl:i=r.length:=by omega
  rw[List.take_length] at ha
  have hP:=U8 r ⟨hr,hs,he⟩ ha
  have hO:=Y0 (r.map atE) (by rw[List.length_map];omega) (fun p hp=>by
   obtain⟨a,ha,rfl⟩:=List.mem_map.1 hp
   have:=mX (hs a ha);have:=(hs a ha).o;have:=(hs a ha).v;omega)
  have e:Eg r=(!r.isEmpty&&Gp (r.map atE)):=by unfold Eg;rw[ha,Bool.true_and]
  rw[e]
  by_cases h0:r.length>0
  ·have g0:decide ((r.length:Int)>0)=true:=decide_eq_true (by omega)
   rw[show r.isEmpty=false by cases r<;>simp at h0⊢]
   (repeat'((conv=>whnf);first|refine zP ?_|refine zN ?_|refine Ac ?_|refine Aa hP Fz ?_|refine Aa hO Fz ?_|exact zE))
  ·have g0:decide ((r.length:Int)>0)=false:=decide_eq_false (by omega)
   rw[show r.isEmpty=true by cases r<;>simp at h0⊢]
   (repeat'((conv=>whnf);first|refine zN ?_|refine Ae ?_|exact zE))
theorem Xr (r:List Att) (hz:rdnZ r):Ab Tryz.prog 67 [.d (Fq r)] (fun x=>x=if Eg r=true then .tup [A4 0 5 (C8 r),iv 0] else .tup [Ax,iv 8]):=by
 have hV:=Q0 r hz
 cases h:Eg r
 ·rw[if_neg (by simp)]
  rw[h] at hV
  refine acQ 10 Tryz.func67 rfl rfl fun _ _ _=> ?_
  (repeat'((conv=>whnf);first|refine Ac ?_|refine Aa hV Fz ?_|exact zE))
 ·rw[if_pos rfl]
  rw[h] at hV
  have hP:=U8 r hz (by unfold Eg at h;simp at h;simp;exact h.2.1)
  have hU:Ab Tryz.prog 42 [cv 49,.d (C4 (r.map atE))] (fun x=>x=A4 0 5 (C8 r)):=Et 49 (r.map atE) (by rw[List.length_map];have:=hz.l;omega) (by have:=hz.e;omega)
  refine acQ 10 Tryz.func67 rfl rfl fun _ _ _=> ?_
  (repeat'((conv=>whnf);first|refine Ae ?_|refine Aa hV Fz ?_|refine Aa hP Fz ?_|refine Aa hU Fz ?_|exact zE))
theorem eV (n:List (List Att)) (hn:nmZ n):Ab Tryz.prog 110 [.d (Fh n)] (fun x=>x=bv (nmV n)):=by
 obtain⟨hr,hs,-⟩:=hn
 unfold nmV
 refine acQ 16 Tryz.func110 rfl rfl fun _ _ _=> ?_
 (all_goals(conv=>whnf))
 refine Au (fun i:Nat=>i≤n.length∧(n.take i).all Eg=true) (fun i=>n.length-i) (fun i=>⟨[(0,.d (Fh n)),(3,iv i)],[],[]⟩) 0 ⟨by omega,rfl⟩ leQ ?_
 rintro i ⟨hi,ha⟩
 by_cases hik:i<n.length
 ·have gi:decide ((i:Int)<n.length)=true:=decide_eq_true (by omega)
  obtain⟨x,hg⟩:∃p,n[i]?=some p:=⟨_,List.getElem?_eq_getElem hik⟩
  have hx:=hs x (List.mem_of_getElem? hg)
  have hV:=Q0 x hx
  cases h1:Eg x
  ·rw[h1] at hV
   rw[show n.all Eg=false by
    cases hh:n.all Eg with
    |false=>rfl
    |true=>rw[List.all_eq_true.1 hh x (List.mem_of_getElem? hg)] at h1;cases h1]
   (repeat'((conv=>whnf);first|refine zP ?_|refine Ac ?_|refine NIdx.tab (fun _=>rfl) hg ?_|refine Aa hV Fz ?_|exact zE))
  ·rw[h1] at hV
   (repeat'((conv=>whnf);first|refine zP ?_|refine Ae ?_|refine NIdx.tab (fun _=>rfl) hg ?_|refine Aa hV Fz ?_|(with_reducible refine NInt.i64 ?_)));(all_goals(conv=>whnf))
   refine⟨i+1,⟨by omega,Gb Eg hg h1 ha⟩,by omega,?_⟩
   exact leQ
 ·have gi:decide ((i:Int)<n.length)=false:=decide_eq_false (by omega)
  obtain rfl:i=n.length:=by omega
  rw[List.take_length] at ha
  rw[ha]
  (repeat'((conv=>whnf);refine zN ?_));(all_goals(conv=>whnf))
  all_goals exact zE
theorem yL (n:List (List Att)) (hn:nmZ n):Ab Tryz.prog 101 [.d (Fh n)] (fun x=>x=if nmV n=true then .tup [A4 0 5 (nmE n),iv 0] else .tup [Ax,iv 8]):=by
 have hV:=eV n hn
 obtain⟨hr,hs,hE⟩:=hn
 cases h:nmV n
 ·rw[if_neg (by simp)]
  rw[h] at hV
  refine acQ 31 Tryz.func101 rfl rfl fun _ _ _=> ?_
  (repeat'((conv=>whnf);first|refine Ac ?_|refine Aa hV Fz ?_|exact zE))
 ·rw[if_pos rfl]
  rw[h] at hV
  have hU:Ab Tryz.prog 42 [cv 48,.d (C4 (n.map C8))] (fun x=>x=A4 0 5 (nmE n)):=Et 48 (n.map C8) (by rw[List.length_map];omega) (by omega)
  refine acQ 31 Tryz.func101 rfl rfl fun _ _ _=> ?_
  (repeat'((conv=>whnf);first|refine Ae ?_|refine Aa hV Fz ?_));(all_goals(conv=>whnf))
  refine Ba [.s 4 1 29] (fun i:Nat=>i≤n.length) (fun i=>n.length-i) (fun i=>⟨[(0,.d (Fh n)),(4,Bx 4 1 29 Ct ((n.take i).map C8)),(5,iv i)],[],[(4,(((n.take i).map C8).length,1,29))]⟩) 0 (by omega) leQ ?_
  rintro i hi
  have hml:((n.take i).map C8).length≤100000:=by rw[List.length_map,List.length_take];omega
  by_cases hik:i<n.length
  ·have gi:decide ((i:Int)<n.length)=true:=decide_eq_true (by omega)
   obtain⟨x,hg⟩:∃p,n[i]?=some p:=⟨_,List.getElem?_eq_getElem hik⟩
   have hx:=hs x (List.mem_of_getElem? hg)
   have hM:=Xr x hx
   rw[if_pos (List.all_eq_true.1 h x (List.mem_of_getElem? hg))] at hM
   have hs1:=Hp C8 hg
   generalize C8 x=e at hM hs1
   (repeat'((conv=>whnf);first|refine zP ?_|refine NIdx.tab (fun _=>rfl) hg ?_|refine Aa hM Fz ?_|refine A3 Ct e ?_|(with_reducible refine NInt.i64 ?_)));(all_goals(conv=>whnf))
   refine⟨i+1,by omega,by omega,?_⟩
   rw[hs1]
   exact leQ
  ·have gi:decide ((i:Int)<n.length)=false:=decide_eq_false (by omega)
   obtain rfl:i=n.length:=by omega
   rw[List.take_length]
   (repeat'((conv=>whnf);first|refine zN ?_|refine Aa hU Fz ?_|exact zE))
structure Tr.nm (t:Tr):Prop where
 l:t.ks.length≤100000
 k:∀k∈t.ks,k.ks.length≤100000∧∀j∈k.ks,j.at
structure Att.eqs (a:Att):Prop where
 v:a.val.length≤1000000000
def yM (r:List Att):Prop:=r.length≤1000000∧∀a∈r,a.eqs
def EJ (n:List (List Att)):Prop:=n.length≤1000000∧∀r∈n,yM r
structure Gn.eqs (g:Gn):Prop where
 b:g.by'.length≤1000000000
 n:EJ g.nm
theorem JF (a b:Att):decide (a=b)=(a.oid==b.oid&&a.val==b.val):=by
 obtain⟨o,v⟩:=a;obtain⟨o',v'⟩:=b
 rw[Bool.eq_iff_iff];simp
theorem LY (a b:Gn):decide (a=b)=(a.k==b.k&&(a.oid==b.oid&&(a.tx==b.tx&&(a.by'==b.by'&&(decide (a.nm=b.nm)&&((a.ak==b.ak&&a.av==b.av)&&(a.pk==b.pk&&a.pv==b.pv))))))):=by
 obtain⟨k,o,t,b1,n,ak,av,pk,pv⟩:=a;obtain⟨k',o',t',b1',n',ak',av',pk',pv'⟩:=b
 rw[Bool.eq_iff_iff];simp[and_assoc]
theorem Gr {p:Prop} (h:p:=by first|rfl|(simp only[AV.gives,AV.ren,AV.give,D.un,D.uns,Aj,Ak,List.nil_append,List.append_nil,List.cons_append,Ap,A0,Bk,A7,Ay,Bj,Bs];first|done|rfl)):p:=h
theorem EK (a b:Att) (ha:a.eqs) (hb:b.eqs):Ab Tryz.prog 78 [atA a,atA b] (fun r=>r=bv (decide (a=b))):=by
 have hB:=C5 false false a.val b.val ha.v hb.v
 rw[JF]
 cases h:(a.oid==b.oid)
 ·refine acQ 17 Tryz.func78 rfl rfl fun _ _ _=> ?_
  (repeat'((conv=>whnf);first|refine zN ?_|refine Ae ?_|exact zE))
 ·rw[Bool.true_and]
  refine acQ 17 Tryz.func78 rfl rfl fun _ _ _=> ?_
  (repeat'((conv=>whnf);first|refine zP ?_|refine Ac ?_|refine Aa hB Gr ?_|exact zE))
theorem aC (a b:List Att) (ha:a.length≤1000000∧∀p∈a,p.eqs) (hb:b.length≤1000000∧∀p∈b,p.eqs):Ab Tryz.prog 49 [.d (Fq a),.d (Fq b)] (fun r=>r=bv (decide (a=b))):=by
 obtain⟨ha,hpa⟩:=ha
 obtain⟨hb,hpb⟩:=hb
 refine acQ 33 Tryz.func49 rfl rfl fun _ _ _=> ?_
 (all_goals(conv=>whnf))
 refine Au (fun i:Nat=>i≤a.length∧i≤b.length∧a.take i=b.take i) (fun i=>a.length-i) (fun i=>⟨[(0,.d (Fq a)),(1,.d (Fq b)),(5,iv i)],[],[]⟩) 0 ⟨by omega,by omega,rfl⟩ leQ ?_
 rintro i ⟨hi,hj,ht⟩
 by_cases hik:i<a.length∧i<b.length
 ·obtain⟨k1,k2⟩:=hik
  have g1:decide ((i:Int)<a.length)=true:=decide_eq_true (by omega)
  have g2:decide ((i:Int)<b.length)=true:=decide_eq_true (by omega)
  obtain⟨x,hx⟩:∃p,a[i]?=some p:=⟨_,List.getElem?_eq_getElem k1⟩
  obtain⟨y,hy⟩:∃p,b[i]?=some p:=⟨_,List.getElem?_eq_getElem k2⟩
  have hB:=EK x y (hpa x (List.mem_of_getElem? hx)) (hpb y (List.mem_of_getElem? hy))
  by_cases hq:x=y
  ·rw[decide_eq_true hq] at hB
   (repeat'((conv=>whnf);first|refine zP ?_|refine Ac ?_|refine Ae ?_|refine NIdx.tab (fun _=>rfl) hx ?_|refine NIdx.tab (fun _=>rfl) hy ?_|refine Aa hB Gr ?_|(with_reducible refine NInt.i64 ?_)|refine zF ?_));(all_goals(conv=>whnf))
   refine⟨i+1,⟨by omega,by omega,Sf ht hx (hq▸hy)⟩,by omega,?_⟩
   exact leQ
  ·rw[decide_eq_false hq] at hB
   rw[decide_eq_false (mW hx hy hq)]
   (repeat'((conv=>whnf);first|refine zP ?_|refine Ac ?_|refine NIdx.tab (fun _=>rfl) hx ?_|refine NIdx.tab (fun _=>rfl) hy ?_|refine Aa hB Gr ?_|refine zF ?_|exact zE))
 ·by_cases he:a.length=b.length
  ·have:=Zu ht hik hi hj he
   subst this
   have g1:decide ((i:Int)<a.length)=false:=decide_eq_false (by omega)
   rw[decide_eq_true rfl]
   (repeat'((conv=>whnf);first|refine zN ?_|refine Ae ?_));(all_goals(conv=>whnf))
   all_goals(refine Az ?_;(repeat'(first|refine And.intro ?_ ?_|exact rfl));(all_goals(conv=>whnf)))
   all_goals simp
  ·rw[decide_eq_false (fun e=>he (by rw[e]))]
   have g3:((a.length:Int)==b.length)=false:=by rw[beq_eq_false_iff_ne];omega
   by_cases k1:i<a.length
   ·have g1:decide ((i:Int)<a.length)=true:=decide_eq_true (by omega)
    have g2:decide ((i:Int)<b.length)=false:=decide_eq_false (by omega)
    (repeat'((conv=>whnf);first|refine zP ?_|refine zN ?_|refine Ac ?_));(all_goals(conv=>whnf))
    all_goals(refine Az ?_;(repeat'(first|refine And.intro ?_ ?_|exact rfl));(all_goals(conv=>whnf)))
    all_goals exact g3
   ·have g1:decide ((i:Int)<a.length)=false:=decide_eq_false (by omega)
    (repeat'((conv=>whnf);first|refine zN ?_|refine Ae ?_));(all_goals(conv=>whnf))
    all_goals(refine Az ?_;(repeat'(first|refine And.intro ?_ ?_|exact rfl));(all_goals(conv=>whnf)))
    all_goals exact g3
theorem yN (a b:List (List Att)) (ha:a.length≤1000000∧∀p∈a,yM p) (hb:b.length≤1000000∧∀p∈b,yM p):Ab Tryz.prog 115 [.d (Fh a),.d (Fh b)] (fun r=>r=bv (decide (a=b))):=by
 obtain⟨ha,hpa⟩:=ha
 obtain⟨hb,hpb⟩:=hb
 refine acQ 33 Tryz.func115 rfl rfl fun _ _ _=> ?_
 (all_goals(conv=>whnf))
 refine Au (fun i:Nat=>i≤a.length∧i≤b.length∧a.take i=b.take i) (fun i=>a.length-i) (fun i=>⟨[(0,.d (Fh a)),(1,.d (Fh b)),(5,iv i)],[],[]⟩) 0 ⟨by omega,by omega,rfl⟩ leQ ?_
 rintro i ⟨hi,hj,ht⟩
 by_cases hik:i<a.length∧i<b.length
 ·obtain⟨k1,k2⟩:=hik
  have g1:decide ((i:Int)<a.length)=true:=decide_eq_true (by omega)
  have g2:decide ((i:Int)<b.length)=true:=decide_eq_true (by omega)
  obtain⟨x,hx⟩:∃p,a[i]?=some p:=⟨_,List.getElem?_eq_getElem k1⟩
  obtain⟨y,hy⟩:∃p,b[i]?=some p:=⟨_,List.getElem?_eq_getElem k2⟩
  have hB:=aC x y (hpa x (List.mem_of_getElem? hx)) (hpb y (List.mem_of_getElem? hy))
  by_cases hq:x=y
  ·rw[decide_eq_true hq] at hB
   (repeat'((conv=>whnf);first|refine zP ?_|refine Ac ?_|refine Ae ?_|refine NIdx.tab (fun _=>rfl) hx ?_|refine NIdx.tab (fun _=>rfl) hy ?_|refine Aa hB Gr ?_|(with_reducible refine NInt.i64 ?_)|refine zF ?_));(all_goals(conv=>whnf))
   refine⟨i+1,⟨by omega,by omega,Sf ht hx (hq▸hy)⟩,by omega,?_⟩
   exact leQ
  ·rw[decide_eq_false hq] at hB
   rw[decide_eq_false (mW hx hy hq)]
   (repeat'((conv=>whnf);first|refine zP ?_|refine Ac ?_|refine NIdx.tab (fun _=>rfl) hx ?_|refine NIdx.tab (fun _=>rfl) hy ?_|refine Aa hB Gr ?_|refine zF ?_|exact zE))
 ·by_cases he:a.length=b.length
  ·have:=Zu ht hik hi hj he
   subst this
   have g1:decide ((i:Int)<a.length)=false:=decide_eq_false (by omega)
   rw[decide_eq_true rfl]
   (repeat'((conv=>whnf);first|refine zN ?_|refine Ae ?_));(all_goals(conv=>whnf))
   all_goals(refine Az ?_;(repeat'(first|refine And.intro ?_ ?_|exact rfl));(all_goals(conv=>whnf)))
   all_goals simp
  ·rw[decide_eq_false (fun e=>he (by rw[e]))]
   have g3:((a.length:Int)==b.length)=false:=by rw[beq_eq_false_iff_ne];omega
   by_cases k1:i<a.length
   ·have g1:decide ((i:Int)<a.length)=true:=decide_eq_true (by omega)
    have g2:decide ((i:Int)<b.length)=false:=decide_eq_false (by omega)
    (repeat'((conv=>whnf);first|refine zP ?_|refine zN ?_|refine Ac ?_));(all_goals(conv=>whnf))
    all_goals(refine Az ?_;(repeat'(first|refine And.intro ?_ ?_|exact rfl));(all_goals(conv=>whnf)))
    all_goals exact g3
   ·have g1:decide ((i:Int)<a.length)=false:=decide_eq_false (by omega)
    (repeat'((conv=>whnf);first|refine zN ?_|refine Ae ?_));(all_goals(conv=>whnf))
    all_goals(refine Az ?_;(repeat'(first|refine And.intro ?_ ?_|exact rfl));(all_goals(conv=>whnf)))
    all_goals exact g3
theorem Dj (a b:Gn) (ha:a.eqs) (hb:b.eqs):Ab Tryz.prog 77 [gnA a,gnA b] (fun r=>r=bv (decide (a=b))):=by
 have hB:=C5 false false a.by' b.by' ha.b hb.b
 have hN:=yN a.nm b.nm ha.n hb.n
 rw[LY]
 generalize decide (a.nm=b.nm)=en at hN⊢
 obtain⟨k,o,t,b1,n,ak,av,pk,pv⟩:=a;obtain⟨k',o',t',b1',n',ak',av',pk',pv'⟩:=b
 simp only at hB hN⊢
 cases h1:(k==k')
 ·rw[Bool.false_and]
  refine acQ 52 Tryz.func77 rfl rfl fun _ _ _=> ?_
  (repeat'((conv=>whnf);first|refine zN ?_|refine Ae ?_|exact zE))
 rw[Bool.true_and]
 cases h2:(o==o')
 ·rw[Bool.false_and]
  refine acQ 52 Tryz.func77 rfl rfl fun _ _ _=> ?_
  (repeat'((conv=>whnf);first|refine zP ?_|refine zN ?_|refine Ac ?_|refine Ae ?_|exact zE))
 rw[Bool.true_and]
 cases h3:(t==t')
 ·rw[Bool.false_and]
  refine acQ 52 Tryz.func77 rfl rfl fun _ _ _=> ?_
  (repeat'((conv=>whnf);first|refine zP ?_|refine zN ?_|refine Ac ?_|refine Ae ?_|exact zE))
 rw[Bool.true_and]
 cases h4:(b1==b1')
 ·rw[h4] at hB
  rw[Bool.false_and]
  refine acQ 52 Tryz.func77 rfl rfl fun _ _ _=> ?_
  (repeat'((conv=>whnf);first|refine zP ?_|refine Ac ?_|refine Ae ?_|refine Aa hB Gr ?_|exact zE))
 rw[h4] at hB
 rw[Bool.true_and]
 cases en with
 |false=>
  rw[Bool.false_and]
  refine acQ 52 Tryz.func77 rfl rfl fun _ _ _=> ?_
  (repeat'((conv=>whnf);first|refine zP ?_|refine Ac ?_|refine Ae ?_|refine Aa hB Gr ?_|refine Aa hN Gr ?_|exact zE))
 |true=>
  rw[Bool.true_and]
  cases h6:(ak==ak'&&av==av')
  ·rw[Bool.false_and]
   refine acQ 52 Tryz.func77 rfl rfl fun _ _ _=> ?_
   (repeat'((conv=>whnf);first|refine zP ?_|refine zN ?_|refine Ac ?_|refine Ae ?_|refine Aa hB Gr ?_|refine Aa hN Gr ?_|refine An (Dq rfl rfl (ltN rfl) rfl rfl) ?_|exact zE))
  ·rw[Bool.true_and]
   refine acQ 52 Tryz.func77 rfl rfl fun _ _ _=> ?_
   (repeat'((conv=>whnf);first|refine zP ?_|refine Ac ?_|refine Aa hB Gr ?_|refine Aa hN Gr ?_|refine An (Dq rfl rfl (ltN rfl) rfl rfl) ?_|exact zE))
theorem Kx (a b:List Gn) (ha:a.length≤1000000∧∀p∈a,p.eqs) (hb:b.length≤1000000∧∀p∈b,p.eqs):Ab Tryz.prog 48 [.d (E4 a),.d (E4 b)] (fun r=>r=bv (decide (a=b))):=by
 obtain⟨ha,hpa⟩:=ha
 obtain⟨hb,hpb⟩:=hb
 refine acQ 33 Tryz.func48 rfl rfl fun _ _ _=> ?_
 (all_goals(conv=>whnf))
 refine Au (fun i:Nat=>i≤a.length∧i≤b.length∧a.take i=b.take i) (fun i=>a.length-i) (fun i=>⟨[(0,.d (E4 a)),(1,.d (E4 b)),(5,iv i)],[],[]⟩) 0 ⟨by omega,by omega,rfl⟩ leQ ?_
 rintro i ⟨hi,hj,ht⟩
 by_cases hik:i<a.length∧i<b.length
 ·obtain⟨k1,k2⟩:=hik
  have g1:decide ((i:Int)<a.length)=true:=decide_eq_true (by omega)
  have g2:decide ((i:Int)<b.length)=true:=decide_eq_true (by omega)
  obtain⟨x,hx⟩:∃p,a[i]?=some p:=⟨_,List.getElem?_eq_getElem k1⟩
  obtain⟨y,hy⟩:∃p,b[i]?=some p:=⟨_,List.getElem?_eq_getElem k2⟩
  have hB:=Dj x y (hpa x (List.mem_of_getElem? hx)) (hpb y (List.mem_of_getElem? hy))
  by_cases hq:x=y
  ·rw[decide_eq_true hq] at hB
   (repeat'((conv=>whnf);first|refine zP ?_|refine Ac ?_|refine Ae ?_|refine NIdx.tab (fun _=>rfl) hx ?_|refine NIdx.tab (fun _=>rfl) hy ?_|refine Aa hB Gr ?_|(with_reducible refine NInt.i64 ?_)|refine zF ?_));(all_goals(conv=>whnf))
   refine⟨i+1,⟨by omega,by omega,Sf ht hx (hq▸hy)⟩,by omega,?_⟩
   exact leQ
  ·rw[decide_eq_false hq] at hB
   rw[decide_eq_false (mW hx hy hq)]
   (repeat'((conv=>whnf);first|refine zP ?_|refine Ac ?_|refine NIdx.tab (fun _=>rfl) hx ?_|refine NIdx.tab (fun _=>rfl) hy ?_|refine Aa hB Gr ?_|refine zF ?_|exact zE))
 ·by_cases he:a.length=b.length
  ·have:=Zu ht hik hi hj he
   subst this
   have g1:decide ((i:Int)<a.length)=false:=decide_eq_false (by omega)
   rw[decide_eq_true rfl]
   (repeat'((conv=>whnf);first|refine zN ?_|refine Ae ?_));(all_goals(conv=>whnf))
   all_goals(refine Az ?_;(repeat'(first|refine And.intro ?_ ?_|exact rfl));(all_goals(conv=>whnf)))
   all_goals simp
  ·rw[decide_eq_false (fun e=>he (by rw[e]))]
   have g3:((a.length:Int)==b.length)=false:=by rw[beq_eq_false_iff_ne];omega
   by_cases k1:i<a.length
   ·have g1:decide ((i:Int)<a.length)=true:=decide_eq_true (by omega)
    have g2:decide ((i:Int)<b.length)=false:=decide_eq_false (by omega)
    (repeat'((conv=>whnf);first|refine zP ?_|refine zN ?_|refine Ac ?_));(all_goals(conv=>whnf))
    all_goals(refine Az ?_;(repeat'(first|refine And.intro ?_ ?_|exact rfl));(all_goals(conv=>whnf)))
    all_goals exact g3
   ·have g1:decide ((i:Int)<a.length)=false:=decide_eq_false (by omega)
    (repeat'((conv=>whnf);first|refine zN ?_|refine Ae ?_));(all_goals(conv=>whnf))
    all_goals(refine Az ?_;(repeat'(first|refine And.intro ?_ ?_|exact rfl));(all_goals(conv=>whnf)))
    all_goals exact g3
def Tr.isB (c n:Nat) (k:Bool):Tr→Bool
 | .mk c' n' k' _ _=>c'==c&&k'==k&&n'==n
def okT (d:Nat) (p:List UInt8) (t:Tr):Prop:=One d p∧trD d p=t
theorem okT.of {d:Nat} {p:List UInt8} (h:One d p):okT d p (trD d p):=⟨h,rfl⟩
theorem sH (n:Nat):1≤(Fk n).length:=by
 unfold Fk
 split
 ·rename_i h;rw[Cv (by omega)];simp
 ·simp
end Go.Proofs.YtjakkpcpommojaaGreatDoor
