/- MR: the texts GenZ R11 R12 EqG T4 GenZ2, one behind the other. No condition but what each lemma says. -/
import Derived.Test.YtaoahmplnckhpaaGreatDoorMP
import Derived.Test.YtaoahmplnckhpaaGreatDoorMQ
set_option maxRecDepth 100000
set_option maxHeartbeats 16000000
namespace Go.Proofs.YtaoahmplnckhpaaGreatDoor
open Go.RowKit
def Tr.c:Tr→Nat
 | .mk c _ _ _ _=>c
def Tr.k:Tr→Bool
 | .mk _ _ k _ _=>k
def bH (t:Tr) (i:Nat):List UInt8:=match t.ks[i]? with
 |some k=>k.enc
 |none=>[]
def Nz (t:Tr):Att:=⟨odT (t.kid 0).v,bH t 1⟩
def Em (t:Tr):List Att:=t.ks.map Nz
def M0 (t:Tr):List (List Att):=t.ks.map Em
def isT (t:Tr) (c n:Nat) (k:Bool):Bool:=t.c==c&&(t.k==k&&t.n==n)
def N0 (t:Tr):Int:=Fg t.n t.v
def N1 (t:Tr):List UInt8:=Cw t.n t.v
def Bg (t:Tr):Gn:=match t.n with
 |0=>⟨0,odT (t.kid 0).v,[],Tr.encs (t.kid 1).ks,[],0,[],0,[]⟩
 |1=>⟨1,[],Cw 22 t.v,[],[],0,[],0,[]⟩
 |2=>⟨2,[],Cw 22 t.v,[],[],0,[],0,[]⟩
 |3=>⟨3,[],[],Tr.encs t.ks,[],0,[],0,[]⟩
 |4=>⟨4,[],[],[],M0 (t.kid 0),0,[],0,[]⟩
 |5=>if isT (t.kid 0) 2 0 true then⟨5,[],[],[],[],N0 ((t.kid 0).kid 0),N1 ((t.kid 0).kid 0),N0 ((t.kid 1).kid 0),N1 ((t.kid 1).kid 0)⟩ else⟨5,[],[],[],[],0,[],N0 ((t.kid 0).kid 0),N1 ((t.kid 0).kid 0)⟩
 |6=>⟨6,[],Cw 22 t.v,[],[],0,[],0,[]⟩
 |7=>⟨7,[],[],t.v,[],0,[],0,[]⟩
 |8=>⟨8,odT t.v,[],[],[],0,[],0,[]⟩
 |n=>⟨n,[],[],[],[],0,[],0,[]⟩
theorem zC {d:Nat} {l:List UInt8} {t:Tr} {sz:Nat} (h:rT d l=⟨[t],sz,0,0⟩):t.k=true→t.v=[]:=by
 cases d with
 |zero=>simp[rT,TR.bad] at h
 |succ d=>
  rw[rT] at h
  unfold rTH at h
  split at h
  ·simp[TR.bad] at h
  ·split at h
   ·simp[TR.bad] at h
   ·split at h
    ·simp only[TR.mk.injEq,List.cons.injEq,and_true] at h
     obtain⟨rfl,-⟩:=h
     intro hk;cases hk
    ·split at h
     ·simp[TR.bad] at h
     ·simp only[TR.mk.injEq,List.cons.injEq,and_true] at h
      obtain⟨rfl,-⟩:=h
      intro _;rfl
theorem zD {d c n:Nat} {p:List UInt8} (hc:c≤3) (hn:n≤30) (h:One d p) (hl:p.length≤2000000000):One (d+1) (Ah c n true p)∧trD (d+1) (Ah c n true p)= .mk c n true [] [trD d p]:=by
 have:=Lg (d:=d) [p] hc hn (fun q hq=>by rw[List.mem_singleton.1 hq];exact⟨h,by omega⟩) (by simp;omega)
 simpa using this
theorem gE {d c n:Nat} {p q:List UInt8} (hc:c≤3) (hn:n≤30) (h1:One d p) (h2:One d q) (hl:p.length+q.length≤2000000000):One (d+1) (Ah c n true (p++q))∧trD (d+1) (Ah c n true (p++q))= .mk c n true [] [trD d p,trD d q]:=by
 have:=Lg (d:=d) [p,q] hc hn (fun x hx=>by
  rcases List.mem_cons.1 hx with rfl|hx
  ·exact⟨h1,by omega⟩
  ·rw[List.mem_singleton.1 hx];exact⟨h2,by omega⟩) (by simp;omega)
 simpa using this
theorem bI {a:Att} (h:atV a=true) (hs:a.sm):One 17 (atE a)∧Nz (trD 17 (atE a))=a:=by
 obtain⟨h1,h2⟩:=Tq h
 have k1:=Fa a.oid
 have o1:=hs.o
 have o2:=hs.v
 have k2:=Ar 0 6 false (Bo a.oid) (by omega)
 obtain⟨b1,b2⟩:=V2 (d:=15) (c:=0) (n:=6) (Bo a.oid) (by omega) (by omega) (by omega)
 have hv:=Mv h2
 obtain⟨c1,c2⟩:=gE (d:=16) (c:=0) (n:=16) (by omega) (by omega) b1 hv (by omega)
 refine⟨c1,?_⟩
 have e:trD 17 (atE a)= .mk 0 16 true [] [trD 16 (Ah 0 6 false (Bo a.oid)),trD 16 a.val]:=c2
 rw[e]
 show(⟨odT (trD 16 (Ah 0 6 false (Bo a.oid))).v,(trD 16 a.val).enc⟩:Att)=a
 rw[b2,hv.enc.2]
 show(⟨odT (Bo a.oid),a.val⟩:Att)=a
 rw[(U9 h1).1]
theorem oI {r:List Att} (h:Ed r=true) (hz:rdnZ r):One 18 (Cv r)∧Em (trD 18 (Cv r))=r:=by
 obtain⟨h0,h1,h2⟩:=Nq h
 obtain⟨hl,hs,hq⟩:=hz
 obtain⟨c1,c2⟩:=Lg (d:=17) (c:=0) (n:=17) (r.map atE) (by omega) (by omega) (fun p hp=>by
  obtain⟨a,ha,rfl⟩:=List.mem_map.1 hp
  have:=Ts (hs a ha)
  have:=(hs a ha).o
  have:=(hs a ha).v
  exact⟨(bI (List.all_eq_true.1 h1 a ha) (hs a ha)).1,by omega⟩) (by omega)
 refine⟨c1,?_⟩
 have e:trD 18 (Cv r)= .mk 0 17 true [] ((r.map atE).map (trD 17)):=c2
 rw[e]
 show((r.map atE).map (trD 17)).map Nz=r
 rw[List.map_map,List.map_map]
 conv=>rhs;rw[←List.map_id r]
 exact List.map_congr_left fun a ha=>(bI (List.all_eq_true.1 h1 a ha) (hs a ha)).2
theorem KM {n:List (List Att)} (h:nmV n=true) (hs:nmZ n):One 19 (nmE n)∧M0 (trD 19 (nmE n))=n:=by
 have he:=hs.e
 obtain⟨c1,c2⟩:=Lg (d:=18) (c:=0) (n:=16) (n.map Cv) (by omega) (by omega) (fun p hp=>by
  obtain⟨r,hr,rfl⟩:=List.mem_map.1 hp
  have:=yH (hs.r r hr)
  have:=(hs.r r hr).e
  exact⟨(oI (List.all_eq_true.1 h r hr) (hs.r r hr)).1,by omega⟩) (by omega)
 refine⟨c1,?_⟩
 have e:trD 19 (nmE n)= .mk 0 16 true [] ((n.map Cv).map (trD 18)):=c2
 rw[e]
 show((n.map Cv).map (trD 18)).map Em=n
 rw[List.map_map,List.map_map]
 conv=>rhs;rw[←List.map_id n]
 exact List.map_congr_left fun r hr=>(oI (List.all_eq_true.1 h r hr) (hs.r r hr)).2
theorem zG {k:Int} {l:List UInt8} (h:Al k l=true) (hl:l.length≤3000000):One 1 (txE k l)∧N0 (trD 1 (txE k l))=k∧N1 (trD 1 (txE k l))=l:=by
 obtain⟨n,h1,h2,rfl⟩:=Ql h
 have h4:=Gu h
 obtain⟨b1,b2⟩:=V2 (d:=0) (c:=0) (n:=n) (chS (n:Int) l) (by omega) h2 (by omega)
 have e:txE (n:Int) l=Ah 0 n false (chS (n:Int) l):=by unfold txE;rw[Int.toNat_natCast]
 rw[e]
 obtain⟨c1,c2,-⟩:=Ry h
 refine⟨b1,?_,?_⟩
 ·rw[b2];exact c1
 ·rw[b2];exact c2
theorem J9 {p:Prop} (h:p:=by first|rfl|(simp only[AV.gives,AV.ren,AV.give,D.un,D.uns,Aj,Am,List.nil_append,List.append_nil,List.cons_append,Av,A6,Kr,Bw,Bd,Yp,Tr.cellss_un,Bn,A8,Cj];first|done|rfl)):p:=h
theorem gF (a:Att) (ho:a.oid.length≤3500000) (hv:a.val.length≤1000000000):Ab Tryz.prog 139 [atA a] (fun r=>r=bv (atV a)):=by
 have hV:=J6 a.oid ho
 have hO:=O5 a.val hv
 unfold atV
 cases h:E4 a.oid
 ·rw[h] at hV
  refine acQ 11 Tryz.func139 rfl rfl fun _ _ _=> ?_
  (repeat'((conv=>whnf);first|refine Ae ?_|refine Aa hV rfl ?_|exact zE))
 ·rw[h] at hV
  rw[Bool.true_and]
  refine acQ 11 Tryz.func139 rfl rfl fun _ _ _=> ?_
  (repeat'((conv=>whnf);first|refine Ac ?_|refine Aa hV rfl ?_|refine Aa hO J9 ?_|exact zE))
theorem zH (a:Att) (ho:a.oid.length≤3500000) (hv:a.val.length≤100000000):Ab Tryz.prog 194 [atA a] (fun r=>r=if atV a=true then .tup [A7 0 5 (atE a),iv 0] else .tup [A3,iv 8]):=by
 have hV:=gF a ho (by omega)
 cases h:atV a
 ·rw[if_neg (by simp)]
  rw[h] at hV
  refine acQ 14 Tryz.func194 rfl rfl fun _ _ _=> ?_
  (repeat'((conv=>whnf);first|refine Ac ?_|refine Aa hV J9 ?_|exact zE))
 ·rw[if_pos rfl]
  rw[h] at hV
  have hO:=V1 a.oid ho
  have k1:=Fa a.oid
  have k2:=Ar 0 6 false (Bo a.oid) (by omega)
  have hP:=Fv 48 [Rt a.oid,a.val] (by simp) (by simp[Rt];omega)
  rw[show J3 48 [Rt a.oid,a.val].flatten=atE a by simp only[List.flatten_cons,List.flatten_nil,List.append_nil];rfl] at hP
  have hP:Ab Tryz.prog 85 [cv 48,.d (Do [Rt a.oid,a.val])] (fun r=>r=A7 0 5 (atE a)):=hP
  generalize Rt a.oid=ob at hO hP
  refine acQ 14 Tryz.func194 rfl rfl fun _ _ _=> ?_
  (repeat'((conv=>whnf);first|refine Ae ?_|refine Aa hV J9 ?_|refine Aa hO rfl ?_|refine Aa hP J9 ?_|refine zF ?_|exact zE))
theorem zI (t:Tr) (i:Nat) (hi:i≤1000000) (hk:∀k,t.ks[i]?=some k→k.ok∧k.enc.length≤900000000):Ab Tryz.prog 203 [trF t,iv i] (fun r=>r= .d (Af true (bH t i))):=by
 obtain⟨c,n,k,b,ks⟩:=t
 have g0:decide ((i:Int)<0)=false:=decide_eq_false (by omega)
 rw[Bt]
 unfold bH
 simp only[Tr.ks] at hk⊢
 by_cases h:i<ks.length
 ·have g1:decide ((i:Int)≥ks.length)=false:=decide_eq_false (by omega)
  obtain⟨x,hx⟩:∃x,ks[i]?=some x:=⟨_,An h⟩
  obtain⟨h1,h2⟩:=hk x hx
  have hB:=O4 x h1 h2
  rw[hx]
  simp only
  generalize x.enc=e at hB
  obtain⟨c',n',k',b',ks'⟩:=x
  rw[Bt] at hB
  refine acQ 20 Tryz.func203 rfl rfl fun _ _ _=> ?_
  (repeat'((conv=>whnf);first|refine zN ?_|refine Ae ?_|(refine Dd hx ?_)|refine Aa hB J9 ?_|exact zE))
 ·have g1:decide ((i:Int)≥ks.length)=true:=decide_eq_true (by omega)
  rw[List.getElem?_eq_none (by omega)]
  refine acQ 20 Tryz.func203 rfl rfl fun _ _ _=> ?_
  (repeat'((conv=>whnf);first|refine zP ?_|refine zN ?_|refine Ae ?_|exact zE))
abbrev atQ (a:Att):AV:= .agg [.d (sD a.oid),.d (Af true a.val)]
structure Tr.at (t:Tr):Prop where
 o:(t.kid 0).v.length≤30000
 v:∀k,t.ks[1]?=some k→k.ok∧k.enc.length≤900000000
theorem zJ (t:Tr) (ht:t.at):Ab Tryz.prog 153 [trF t] (fun r=>r=atQ (Nz t)):=by
 have hK:=Ig t 0 (by omega)
 have hR:=Mt (t.kid 0) ht.o
 have hO:=zI t 1 (by omega) ht.v
 unfold Nz
 generalize odT (t.kid 0).v=o at hR⊢
 generalize t.kid 0=k0 at hK hR
 generalize bH t 1=e at hO⊢
 obtain⟨c,n,k,b,ks⟩:=t
 obtain⟨c',n',k',b',ks'⟩:=k0
 rw[Bt] at hK hR hO
 rw[Bt] at hK⊢
 refine acQ 9 Tryz.func153 rfl rfl fun _ _ _=> ?_
 (repeat'((conv=>whnf);first|refine Aa hK J9 ?_|refine Aa hR J9 ?_|refine Aa hO J9 ?_|refine zF ?_|exact zE))
theorem zK (k:Int) (l:List UInt8) (hl:l.length≤16777216):Ab Tryz.prog 166 [txA k l] (fun r=>r=frS k l):=by
 have hE:=G8 k l hl
 unfold frS
 cases hv:Al k l
 ·rw[show Fc k l=[] by unfold Fc;rw[hv];rfl,show Ix k l=8 by unfold Ix;rw[hv];rfl] at hE
  rw[if_neg (by simp)]
  clear hv
  refine acQ 18 Tryz.func166 rfl rfl fun _ _ _=> ?_
  (repeat'((conv=>whnf);first|refine Ac ?_|refine Aa hE rfl ?_|exact zE))
 ·rw[show Fc k l=chS k l by unfold Fc;rw[hv];rfl,show Ix k l=0 by unfold Ix;rw[hv];rfl] at hE
  have hW4:Ap k≤4:=by unfold Ap;(repeat' split)<;>omega
  have hch:(chS k l).length≤4*l.length:=by
   have:=Mz (f:=Jf (Ap k)) (m:=4) (fun x=>L9 _ x hW4) (rns l)
   rw[Kf hv] at this
   have:=Qp l (by unfold Al at hv;simp at hv;exact hv.1.1);omega
  have hk:¬Ap k<0:=by unfold Al at hv;simp at hv;omega
  rw[if_pos rfl]
  have hP:Ab Tryz.prog 115 [cv (UInt8.ofNat k.toNat).toNat,.d (Af false (chS k l))] (fun r=>r=A7 0 5 (txE k l)):=by
   have:=Dc (UInt8.ofNat k.toNat) (chS k l) (by omega)
   rw[show J3 (UInt8.ofNat k.toNat) (chS k l)=txE k l from ?_] at this
   ·exact this
   ·unfold txE Ah;rw[show idN ((0:Nat):Int) false (k.toNat:Int)=k.toNat by rw[yA];simp]
  generalize chS k l=ch at hE hP
  generalize txE k l=e at hP⊢
  clear hv
  obtain⟨q,rfl⟩:∃q:Nat,k=q:=⟨k.toNat,by rcases Dm k hk with rfl|rfl|rfl|rfl|rfl|rfl|rfl<;>rfl⟩
  rw[Int.toNat_natCast] at hP
  refine acQ 18 Tryz.func166 rfl rfl fun _ _ _=> ?_
  (repeat'((conv=>whnf);first|refine Ae ?_|refine Aa hE rfl ?_|(with_reducible refine Bp (q) ?_)|refine Aa hP J9 ?_|exact zE))
theorem gG (t:Tr) (hl:t.v.length≤1000000):Ab Tryz.prog 161 [trF t] (fun r=>r=txA (N0 t) (N1 t)):=by
 obtain⟨c,n,k,b,ks⟩:=t
 have hD:=Ih n b hl
 rw[Bt]
 refine acQ 14 Tryz.func161 rfl rfl fun _ _ _=> ?_
 (repeat'((conv=>whnf);refine Aa hD J9 ?_));(all_goals(conv=>whnf))
 all_goals exact zE
theorem Yu (k:Int) (l:List UInt8) (hl:l.length≤16777216):Ab Tryz.prog 146 [txA k l] (fun r=>r=bv (fiB k l)):=by
 have hV:=H4 k l hl
 unfold fiB
 cases hv:Al k l
 ·rw[hv] at hV
  clear hv
  refine acQ 19 Tryz.func146 rfl rfl fun _ _ _=> ?_
  (repeat'((conv=>whnf);first|refine Ac ?_|refine Aa hV rfl ?_|exact zE))
 ·have hk:¬Ap k<0:=by unfold Al at hv;simp at hv;omega
  rw[hv] at hV
  clear hv
  cases l with
  |nil=>
   refine acQ 19 Tryz.func146 rfl rfl fun _ _ _=> ?_
   (repeat'((conv=>whnf);first|refine Ac ?_|refine Ae ?_|refine Aa hV rfl ?_|exact zE))
  |cons x r=>
   have g:(x::r==[])=false:=rfl
   rw[g]
   rcases Dm k hk with rfl|rfl|rfl|rfl|rfl|rfl|rfl
   all_goals
    refine acQ 19 Tryz.func146 rfl rfl fun _ _ _=> ?_
    (repeat'((conv=>whnf);first|refine zN ?_|refine Ac ?_|refine Ae ?_|refine Aa hV rfl ?_|exact zE))
theorem Fr {p:Prop} (h:p:=by first|rfl|(simp only[AV.gives,AV.ren,AV.give,D.un,D.uns,Aj,Am,List.nil_append,List.append_nil,List.cons_append,Av,A6,Kr,Bw,Bd,Yp,Tr.cellss_un,Bn,A8,Cj,B6,Bk,nV,Yq];first|done|rfl)):p:=h
theorem Wl (r:List Att) (hz:rdnZ r) (hv:r.all atV=true):Ab Tryz.prog 141 [.d (He r)] (fun x=>x= .d (yB (r.map atE))):=by
 obtain⟨hr,hs,he⟩:=hz
 refine acQ 26 Tryz.func141 rfl rfl fun _ _ _=> ?_
 (all_goals(conv=>whnf))
 refine Bb [.s 3 1 33] (fun i:Nat=>i≤r.length) (fun i=>r.length-i) (fun i=>⟨[(0,.d (He r)),(3,Bw 3 1 33 Du ((r.take i).map atE)),(4,iv i)],[],[(3,(((r.take i).map atE).length,1,33))]⟩) 0 (by omega) leQ ?_
 rintro i hi
 have hml:((r.take i).map atE).length≤100000:=by rw[List.length_map,Ao];omega
 by_cases hik:i<r.length
 ·have gi:decide ((i:Int)<r.length)=true:=decide_eq_true (by omega)
  obtain⟨x,hg⟩:∃p,r[i]?=some p:=⟨_,An hik⟩
  have hx:=hs x (Bi hg)
  have hM:=zH x (by have:=hx.o;omega) (by have:=hx.v;omega)
  rw[if_pos (List.all_eq_true.1 hv x (Bi hg))] at hM
  have hs1:=G7 atE hg
  generalize atE x=e at hM hs1
  (repeat'((conv=>whnf);first|refine zP ?_|refine NIdx.tab (fun _=>rfl) hg ?_|refine Aa hM Fr ?_|refine A4 Du e ?_|(with_reducible refine NInt.i64 ?_)));(all_goals(conv=>whnf))
  refine⟨i+1,by omega,by omega,?_⟩
  rw[hs1]
  exact leQ
 ·have gi:decide ((i:Int)<r.length)=false:=decide_eq_false (by omega)
  obtain rfl:i=r.length:=by omega
  rw[List.take_length]
  (repeat'((conv=>whnf);refine zN ?_));(all_goals(conv=>whnf))
  all_goals exact zE
theorem R1 (r:List Att) (hz:rdnZ r):Ab Tryz.prog 103 [.d (He r)] (fun x=>x=bv (Ed r)):=by
 obtain⟨hr,hs,he⟩:=hz
 have bad:r.all atV=false→Ed r=false:=fun h=>by unfold Ed;rw[h];simp
 refine acQ 24 Tryz.func103 rfl rfl fun _ _ _=> ?_
 (all_goals(conv=>whnf))
 refine A1 (fun i:Nat=>i≤r.length∧(r.take i).all atV=true) (fun i=>r.length-i) (fun i=>⟨[(0,.d (He r)),(3,iv i)],[],[]⟩) 0 ⟨by omega,rfl⟩ leQ ?_
 rintro i ⟨hi,ha⟩
 by_cases hik:i<r.length
 ·have gi:decide ((i:Int)<r.length)=true:=decide_eq_true (by omega)
  obtain⟨x,hg⟩:∃p,r[i]?=some p:=⟨_,An hik⟩
  have hx:=hs x (Bi hg)
  have hV:=gF x (by have:=hx.o;omega) (by have:=hx.v;omega)
  cases h1:atV x
  ·rw[h1] at hV
   rw[bad (by
    cases hh:r.all atV with
    |false=>rfl
    |true=>rw[List.all_eq_true.1 hh x (Bi hg)] at h1;cases h1)]
   (repeat'((conv=>whnf);first|refine zP ?_|refine Ac ?_|refine NIdx.tab (fun _=>rfl) hg ?_|refine Aa hV Fr ?_|exact zE))
  ·rw[h1] at hV
   (repeat'((conv=>whnf);first|refine zP ?_|refine Ae ?_|refine NIdx.tab (fun _=>rfl) hg ?_|refine Aa hV Fr ?_|(with_reducible refine NInt.i64 ?_)));(all_goals(conv=>whnf))
   refine⟨i+1,⟨by omega,Is atV hg h1 ha⟩,by omega,?_⟩
   exact leQ
 ·have gi:decide ((i:Int)<r.length)=false:=decide_eq_false (by omega)
  obtain rfl:i=r.length:=by omega
  rw[List.take_length] at ha
  have hP:=Wl r ⟨hr,hs,he⟩ ha
  have hO:=Z8 (r.map atE) (by rw[List.length_map];omega) (fun p hp=>by
   obtain⟨a,ha,rfl⟩:=List.mem_map.1 hp
   have:=Ts (hs a ha);have:=(hs a ha).o;have:=(hs a ha).v;omega)
  have e:Ed r=(!r.isEmpty&&G2 (r.map atE)):=by unfold Ed;rw[ha,Bool.true_and]
  rw[e]
  by_cases h0:r.length>0
  ·have g0:decide ((r.length:Int)>0)=true:=decide_eq_true (by omega)
   rw[show r.isEmpty=false by cases r<;>simp at h0⊢]
   (repeat'((conv=>whnf);first|refine zP ?_|refine zN ?_|refine Ac ?_|refine Aa hP Fr ?_|refine Aa hO Fr ?_|exact zE))
  ·have g0:decide ((r.length:Int)>0)=false:=decide_eq_false (by omega)
   rw[show r.isEmpty=true by cases r<;>simp at h0⊢]
   (repeat'((conv=>whnf);first|refine zN ?_|refine Ae ?_|exact zE))
theorem Yv (r:List Att) (hz:rdnZ r):Ab Tryz.prog 116 [.d (He r)] (fun x=>x=if Ed r=true then .tup [A7 0 5 (Cv r),iv 0] else .tup [A3,iv 8]):=by
 have hV:=R1 r hz
 cases h:Ed r
 ·rw[if_neg (by simp)]
  rw[h] at hV
  refine acQ 10 Tryz.func116 rfl rfl fun _ _ _=> ?_
  (repeat'((conv=>whnf);first|refine Ac ?_|refine Aa hV Fr ?_|exact zE))
 ·rw[if_pos rfl]
  rw[h] at hV
  have hP:=Wl r hz (by unfold Ed at h;simp at h;simp;exact h.2.1)
  have hU:Ab Tryz.prog 85 [cv 49,.d (Do (r.map atE))] (fun x=>x=A7 0 5 (Cv r)):=Fv 49 (r.map atE) (by rw[List.length_map];have:=hz.l;omega) (by have:=hz.e;omega)
  refine acQ 10 Tryz.func116 rfl rfl fun _ _ _=> ?_
  (repeat'((conv=>whnf);first|refine Ae ?_|refine Aa hV Fr ?_|refine Aa hP Fr ?_|refine Aa hU Fr ?_|exact zE))
theorem gH (n:List (List Att)) (hn:nmZ n):Ab Tryz.prog 145 [.d (Hf n)] (fun x=>x=bv (nmV n)):=by
 obtain⟨hr,hs,-⟩:=hn
 unfold nmV
 refine acQ 16 Tryz.func145 rfl rfl fun _ _ _=> ?_
 (all_goals(conv=>whnf))
 refine A1 (fun i:Nat=>i≤n.length∧(n.take i).all Ed=true) (fun i=>n.length-i) (fun i=>⟨[(0,.d (Hf n)),(3,iv i)],[],[]⟩) 0 ⟨by omega,rfl⟩ leQ ?_
 rintro i ⟨hi,ha⟩
 by_cases hik:i<n.length
 ·have gi:decide ((i:Int)<n.length)=true:=decide_eq_true (by omega)
  obtain⟨x,hg⟩:∃p,n[i]?=some p:=⟨_,An hik⟩
  have hx:=hs x (Bi hg)
  have hV:=R1 x hx
  cases h1:Ed x
  ·rw[h1] at hV
   rw[show n.all Ed=false by
    cases hh:n.all Ed with
    |false=>rfl
    |true=>rw[List.all_eq_true.1 hh x (Bi hg)] at h1;cases h1]
   (repeat'((conv=>whnf);first|refine zP ?_|refine Ac ?_|refine NIdx.tab (fun _=>rfl) hg ?_|refine Aa hV Fr ?_|exact zE))
  ·rw[h1] at hV
   (repeat'((conv=>whnf);first|refine zP ?_|refine Ae ?_|refine NIdx.tab (fun _=>rfl) hg ?_|refine Aa hV Fr ?_|(with_reducible refine NInt.i64 ?_)));(all_goals(conv=>whnf))
   refine⟨i+1,⟨by omega,Is Ed hg h1 ha⟩,by omega,?_⟩
   exact leQ
 ·have gi:decide ((i:Int)<n.length)=false:=decide_eq_false (by omega)
  obtain rfl:i=n.length:=by omega
  rw[List.take_length] at ha
  rw[ha]
  (repeat'((conv=>whnf);refine zN ?_));(all_goals(conv=>whnf))
  all_goals exact zE
theorem zL (n:List (List Att)) (hn:nmZ n):Ab Tryz.prog 165 [.d (Hf n)] (fun x=>x=if nmV n=true then .tup [A7 0 5 (nmE n),iv 0] else .tup [A3,iv 8]):=by
 have hV:=gH n hn
 obtain⟨hr,hs,hE⟩:=hn
 cases h:nmV n
 ·rw[if_neg (by simp)]
  rw[h] at hV
  refine acQ 31 Tryz.func165 rfl rfl fun _ _ _=> ?_
  (repeat'((conv=>whnf);first|refine Ac ?_|refine Aa hV Fr ?_|exact zE))
 ·rw[if_pos rfl]
  rw[h] at hV
  have hU:Ab Tryz.prog 85 [cv 48,.d (Do (n.map Cv))] (fun x=>x=A7 0 5 (nmE n)):=Fv 48 (n.map Cv) (by rw[List.length_map];omega) (by omega)
  refine acQ 31 Tryz.func165 rfl rfl fun _ _ _=> ?_
  (repeat'((conv=>whnf);first|refine Ae ?_|refine Aa hV Fr ?_));(all_goals(conv=>whnf))
  refine Bb [.s 4 1 33] (fun i:Nat=>i≤n.length) (fun i=>n.length-i) (fun i=>⟨[(0,.d (Hf n)),(4,Bw 4 1 33 Du ((n.take i).map Cv)),(5,iv i)],[],[(4,(((n.take i).map Cv).length,1,33))]⟩) 0 (by omega) leQ ?_
  rintro i hi
  have hml:((n.take i).map Cv).length≤100000:=by rw[List.length_map,Ao];omega
  by_cases hik:i<n.length
  ·have gi:decide ((i:Int)<n.length)=true:=decide_eq_true (by omega)
   obtain⟨x,hg⟩:∃p,n[i]?=some p:=⟨_,An hik⟩
   have hx:=hs x (Bi hg)
   have hM:=Yv x hx
   rw[if_pos (List.all_eq_true.1 h x (Bi hg))] at hM
   have hs1:=G7 Cv hg
   generalize Cv x=e at hM hs1
   (repeat'((conv=>whnf);first|refine zP ?_|refine NIdx.tab (fun _=>rfl) hg ?_|refine Aa hM Fr ?_|refine A4 Du e ?_|(with_reducible refine NInt.i64 ?_)));(all_goals(conv=>whnf))
   refine⟨i+1,by omega,by omega,?_⟩
   rw[hs1]
   exact leQ
  ·have gi:decide ((i:Int)<n.length)=false:=decide_eq_false (by omega)
   obtain rfl:i=n.length:=by omega
   rw[List.take_length]
   (repeat'((conv=>whnf);first|refine zN ?_|refine Aa hU Fr ?_|exact zE))
theorem Yw (t:Tr) (hn:t.ks.length≤100000) (hk:∀k∈t.ks,k.at):Ab Tryz.prog 112 [trF t] (fun r=>r= .d (Li (Em t))):=by
 obtain⟨c,n,k,b,ks⟩:=t
 rw[Bt]
 unfold Em
 simp only[Tr.ks] at hn hk⊢
 refine acQ 22 Tryz.func112 rfl rfl fun _ _ _=> ?_
 (all_goals(conv=>whnf))
 refine Bb [.s 3 2 101] (fun i:Nat=>i≤ks.length) (fun i=>ks.length-i) (fun i=>⟨[(1,.ptr 1 0),(3,Bw 3 2 101 atU ((ks.take i).map Nz)),(4,iv i)],[(1,[iv c,iv n,bv k,.d (Af false b),.d (.sl false ks.length 5 (Tr.cellss false ks))])],[(3,(((ks.take i).map Nz).length,2,101))]⟩) 0 (by omega) leQ ?_
 rintro i hi
 have hml:((ks.take i).map Nz).length≤100000:=by rw[List.length_map,Ao];omega
 by_cases hik:i<ks.length
 ·have gi:decide ((i:Int)<ks.length)=true:=decide_eq_true (by omega)
  obtain⟨x,hg⟩:∃p,ks[i]?=some p:=⟨_,An hik⟩
  have hR:=zJ x (hk x (Bi hg))
  have hs:=G7 Nz hg
  generalize Nz x=a at hR hs
  obtain⟨c',n',k',b',ks'⟩:=x
  rw[Bt] at hR
  (repeat'((conv=>whnf);first|refine zP ?_|(refine Dd hg ?_)|refine Aa hR Fr ?_|refine A4 atU a ?_|(with_reducible refine NInt.i64 ?_)));(all_goals(conv=>whnf))
  refine⟨i+1,by omega,by omega,?_⟩
  rw[hs]
  exact leQ
 ·have gi:decide ((i:Int)<ks.length)=false:=decide_eq_false (by omega)
  obtain rfl:i=ks.length:=by omega
  rw[List.take_length]
  (repeat'((conv=>whnf);refine zN ?_));(all_goals(conv=>whnf))
  all_goals exact zE
structure Tr.nm (t:Tr):Prop where
 l:t.ks.length≤100000
 k:∀k∈t.ks,k.ks.length≤100000∧∀j∈k.ks,j.at
theorem zM (t:Tr) (ht:t.nm):Ab Tryz.prog 159 [trF t] (fun r=>r= .d (Sv (M0 t))):=by
 obtain⟨hn,hk⟩:=ht
 obtain⟨c,n,k,b,ks⟩:=t
 rw[Bt]
 unfold M0
 simp only[Tr.ks] at hn hk⊢
 refine acQ 22 Tryz.func159 rfl rfl fun _ _ _=> ?_
 (all_goals(conv=>whnf))
 refine Bb [.s 3 1 24] (fun i:Nat=>i≤ks.length) (fun i=>ks.length-i) (fun i=>⟨[(1,.ptr 1 0),(3,Bw 3 1 24 Su ((ks.take i).map Em)),(4,iv i)],[(1,[iv c,iv n,bv k,.d (Af false b),.d (.sl false ks.length 5 (Tr.cellss false ks))])],[(3,(((ks.take i).map Em).length,1,24))]⟩) 0 (by omega) leQ ?_
 rintro i hi
 have hml:((ks.take i).map Em).length≤100000:=by rw[List.length_map,Ao];omega
 by_cases hik:i<ks.length
 ·have gi:decide ((i:Int)<ks.length)=true:=decide_eq_true (by omega)
  obtain⟨x,hg⟩:∃p,ks[i]?=some p:=⟨_,An hik⟩
  obtain⟨h1,h2⟩:=hk x (Bi hg)
  have hR:=Yw x h1 h2
  have hs:=G7 Em hg
  generalize Em x=a at hR hs
  obtain⟨c',n',k',b',ks'⟩:=x
  rw[Bt] at hR
  (repeat'((conv=>whnf);first|refine zP ?_|(refine Dd hg ?_)|refine Aa hR Fr ?_|refine A4 Su a ?_|(with_reducible refine NInt.i64 ?_)));(all_goals(conv=>whnf))
  refine⟨i+1,by omega,by omega,?_⟩
  rw[hs]
  exact leQ
 ·have gi:decide ((i:Int)<ks.length)=false:=decide_eq_false (by omega)
  obtain rfl:i=ks.length:=by omega
  rw[List.take_length]
  (repeat'((conv=>whnf);refine zN ?_));(all_goals(conv=>whnf))
  all_goals exact zE
structure Att.eqs (a:Att):Prop where
 v:a.val.length≤1000000000
def zO (r:List Att):Prop:=r.length≤1000000∧∀a∈r,a.eqs
def FN (n:List (List Att)):Prop:=n.length≤1000000∧∀r∈n,zO r
structure Gn.eqs (g:Gn):Prop where
 b:g.by'.length≤1000000000
 n:FN g.nm
theorem KN (a b:Att):decide (a=b)=(a.oid==b.oid&&a.val==b.val):=by
 obtain⟨o,v⟩:=a;obtain⟨o',v'⟩:=b
 rw[Bool.eq_iff_iff];simp
theorem NP (a b:Gn):decide (a=b)=(a.k==b.k&&(a.oid==b.oid&&(a.tx==b.tx&&(a.by'==b.by'&&(decide (a.nm=b.nm)&&((a.ak==b.ak&&a.av==b.av)&&(a.pk==b.pk&&a.pv==b.pv))))))):=by
 obtain⟨k,o,t,b1,n,ak,av,pk,pv⟩:=a;obtain⟨k',o',t',b1',n',ak',av',pk',pv'⟩:=b
 rw[Bool.eq_iff_iff];simp[and_assoc]
theorem G9 {p:Prop} (h:p:=by first|rfl|(simp only[AV.gives,AV.ren,AV.give,D.un,D.uns,Aj,Am,List.nil_append,List.append_nil,List.cons_append,Av,A6,Cc,Bn,A8,B5,Cj];first|done|rfl)):p:=h
theorem FO (a b:Att) (ha:a.eqs) (hb:b.eqs):Ab Tryz.prog 71 [atA a,atA b] (fun r=>r=bv (decide (a=b))):=by
 have hB:=Cz false false a.val b.val ha.v hb.v
 rw[KN]
 cases h:(a.oid==b.oid)
 ·refine acQ 17 Tryz.func71 rfl rfl fun _ _ _=> ?_
  (repeat'((conv=>whnf);first|refine zN ?_|refine Ae ?_|exact zE))
 ·rw[Bool.true_and]
  refine acQ 17 Tryz.func71 rfl rfl fun _ _ _=> ?_
  (repeat'((conv=>whnf);first|refine zP ?_|refine Ac ?_|refine Aa hB G9 ?_|exact zE))
theorem bJ (a b:List Att) (ha:a.length≤1000000∧∀p∈a,p.eqs) (hb:b.length≤1000000∧∀p∈b,p.eqs):Ab Tryz.prog 37 [.d (He a),.d (He b)] (fun r=>r=bv (decide (a=b))):=by
 obtain⟨ha,hpa⟩:=ha
 obtain⟨hb,hpb⟩:=hb
 refine acQ 33 Tryz.func37 rfl rfl fun _ _ _=> ?_
 (all_goals(conv=>whnf))
 refine A1 (fun i:Nat=>i≤a.length∧i≤b.length∧a.take i=b.take i) (fun i=>a.length-i) (fun i=>⟨[(0,.d (He a)),(1,.d (He b)),(5,iv i)],[],[]⟩) 0 ⟨by omega,by omega,rfl⟩ leQ ?_
 rintro i ⟨hi,hj,ht⟩
 by_cases hik:i<a.length∧i<b.length
 ·obtain⟨k1,k2⟩:=hik
  have g1:decide ((i:Int)<a.length)=true:=decide_eq_true (by omega)
  have g2:decide ((i:Int)<b.length)=true:=decide_eq_true (by omega)
  obtain⟨x,hx⟩:∃p,a[i]?=some p:=⟨_,An k1⟩
  obtain⟨y,hy⟩:∃p,b[i]?=some p:=⟨_,An k2⟩
  have hB:=FO x y (hpa x (Bi hx)) (hpb y (Bi hy))
  by_cases hq:x=y
  ·rw[decide_eq_true hq] at hB
   (repeat'((conv=>whnf);first|refine zP ?_|refine Ac ?_|refine Ae ?_|refine NIdx.tab (fun _=>rfl) hx ?_|refine NIdx.tab (fun _=>rfl) hy ?_|refine Aa hB G9 ?_|(with_reducible refine NInt.i64 ?_)|refine zF ?_));(all_goals(conv=>whnf))
   refine⟨i+1,⟨by omega,by omega,aQ ht hx (hq▸hy)⟩,by omega,?_⟩
   exact leQ
  ·rw[decide_eq_false hq] at hB
   rw[decide_eq_false (yC hx hy hq)]
   (repeat'((conv=>whnf);first|refine zP ?_|refine Ac ?_|refine NIdx.tab (fun _=>rfl) hx ?_|refine NIdx.tab (fun _=>rfl) hy ?_|refine Aa hB G9 ?_|refine zF ?_|exact zE))
 ·by_cases he:a.length=b.length
  ·have:=lH ht hik hi hj he
   subst this
   have g1:decide ((i:Int)<a.length)=false:=decide_eq_false (by omega)
   rw[decide_eq_true rfl]
   (repeat'((conv=>whnf);first|refine zN ?_|refine Ae ?_));(all_goals(conv=>whnf))
   all_goals(refine A9 ?_;(repeat'(first|refine And.intro ?_ ?_|exact rfl));(all_goals(conv=>whnf)))
   all_goals simp
  ·rw[decide_eq_false (fun e=>he (by rw[e]))]
   have g3:((a.length:Int)==b.length)=false:=by rw[beq_eq_false_iff_ne];omega
   by_cases k1:i<a.length
   ·have g1:decide ((i:Int)<a.length)=true:=decide_eq_true (by omega)
    have g2:decide ((i:Int)<b.length)=false:=decide_eq_false (by omega)
    (repeat'((conv=>whnf);first|refine zP ?_|refine zN ?_|refine Ac ?_));(all_goals(conv=>whnf))
    all_goals(refine A9 ?_;(repeat'(first|refine And.intro ?_ ?_|exact rfl));(all_goals(conv=>whnf)))
    all_goals exact g3
   ·have g1:decide ((i:Int)<a.length)=false:=decide_eq_false (by omega)
    (repeat'((conv=>whnf);first|refine zN ?_|refine Ae ?_));(all_goals(conv=>whnf))
    all_goals(refine A9 ?_;(repeat'(first|refine And.intro ?_ ?_|exact rfl));(all_goals(conv=>whnf)))
    all_goals exact g3
theorem zQ (a b:List (List Att)) (ha:a.length≤1000000∧∀p∈a,zO p) (hb:b.length≤1000000∧∀p∈b,zO p):Ab Tryz.prog 72 [.d (Hf a),.d (Hf b)] (fun r=>r=bv (decide (a=b))):=by
 obtain⟨ha,hpa⟩:=ha
 obtain⟨hb,hpb⟩:=hb
 refine acQ 33 Tryz.func72 rfl rfl fun _ _ _=> ?_
 (all_goals(conv=>whnf))
 refine A1 (fun i:Nat=>i≤a.length∧i≤b.length∧a.take i=b.take i) (fun i=>a.length-i) (fun i=>⟨[(0,.d (Hf a)),(1,.d (Hf b)),(5,iv i)],[],[]⟩) 0 ⟨by omega,by omega,rfl⟩ leQ ?_
 rintro i ⟨hi,hj,ht⟩
 by_cases hik:i<a.length∧i<b.length
 ·obtain⟨k1,k2⟩:=hik
  have g1:decide ((i:Int)<a.length)=true:=decide_eq_true (by omega)
  have g2:decide ((i:Int)<b.length)=true:=decide_eq_true (by omega)
  obtain⟨x,hx⟩:∃p,a[i]?=some p:=⟨_,An k1⟩
  obtain⟨y,hy⟩:∃p,b[i]?=some p:=⟨_,An k2⟩
  have hB:=bJ x y (hpa x (Bi hx)) (hpb y (Bi hy))
  by_cases hq:x=y
  ·rw[decide_eq_true hq] at hB
   (repeat'((conv=>whnf);first|refine zP ?_|refine Ac ?_|refine Ae ?_|refine NIdx.tab (fun _=>rfl) hx ?_|refine NIdx.tab (fun _=>rfl) hy ?_|refine Aa hB G9 ?_|(with_reducible refine NInt.i64 ?_)|refine zF ?_));(all_goals(conv=>whnf))
   refine⟨i+1,⟨by omega,by omega,aQ ht hx (hq▸hy)⟩,by omega,?_⟩
   exact leQ
  ·rw[decide_eq_false hq] at hB
   rw[decide_eq_false (yC hx hy hq)]
   (repeat'((conv=>whnf);first|refine zP ?_|refine Ac ?_|refine NIdx.tab (fun _=>rfl) hx ?_|refine NIdx.tab (fun _=>rfl) hy ?_|refine Aa hB G9 ?_|refine zF ?_|exact zE))
 ·by_cases he:a.length=b.length
  ·have:=lH ht hik hi hj he
   subst this
   have g1:decide ((i:Int)<a.length)=false:=decide_eq_false (by omega)
   rw[decide_eq_true rfl]
   (repeat'((conv=>whnf);first|refine zN ?_|refine Ae ?_));(all_goals(conv=>whnf))
   all_goals(refine A9 ?_;(repeat'(first|refine And.intro ?_ ?_|exact rfl));(all_goals(conv=>whnf)))
   all_goals simp
  ·rw[decide_eq_false (fun e=>he (by rw[e]))]
   have g3:((a.length:Int)==b.length)=false:=by rw[beq_eq_false_iff_ne];omega
   by_cases k1:i<a.length
   ·have g1:decide ((i:Int)<a.length)=true:=decide_eq_true (by omega)
    have g2:decide ((i:Int)<b.length)=false:=decide_eq_false (by omega)
    (repeat'((conv=>whnf);first|refine zP ?_|refine zN ?_|refine Ac ?_));(all_goals(conv=>whnf))
    all_goals(refine A9 ?_;(repeat'(first|refine And.intro ?_ ?_|exact rfl));(all_goals(conv=>whnf)))
    all_goals exact g3
   ·have g1:decide ((i:Int)<a.length)=false:=decide_eq_false (by omega)
    (repeat'((conv=>whnf);first|refine zN ?_|refine Ae ?_));(all_goals(conv=>whnf))
    all_goals(refine A9 ?_;(repeat'(first|refine And.intro ?_ ?_|exact rfl));(all_goals(conv=>whnf)))
    all_goals exact g3
theorem D1 (a b:Gn) (ha:a.eqs) (hb:b.eqs):Ab Tryz.prog 38 [gnA a,gnA b] (fun r=>r=bv (decide (a=b))):=by
 have hB:=Cz false false a.by' b.by' ha.b hb.b
 have hN:=zQ a.nm b.nm ha.n hb.n
 rw[NP]
 generalize decide (a.nm=b.nm)=en at hN⊢
 obtain⟨k,o,t,b1,n,ak,av,pk,pv⟩:=a;obtain⟨k',o',t',b1',n',ak',av',pk',pv'⟩:=b
 simp only at hB hN⊢
 cases h1:(k==k')
 ·rw[Bool.false_and]
  refine acQ 52 Tryz.func38 rfl rfl fun _ _ _=> ?_
  (repeat'((conv=>whnf);first|refine zN ?_|refine Ae ?_|exact zE))
 rw[Bool.true_and]
 cases h2:(o==o')
 ·rw[Bool.false_and]
  refine acQ 52 Tryz.func38 rfl rfl fun _ _ _=> ?_
  (repeat'((conv=>whnf);first|refine zP ?_|refine zN ?_|refine Ac ?_|refine Ae ?_|exact zE))
 rw[Bool.true_and]
 cases h3:(t==t')
 ·rw[Bool.false_and]
  refine acQ 52 Tryz.func38 rfl rfl fun _ _ _=> ?_
  (repeat'((conv=>whnf);first|refine zP ?_|refine zN ?_|refine Ac ?_|refine Ae ?_|exact zE))
 rw[Bool.true_and]
 cases h4:(b1==b1')
 ·rw[h4] at hB
  rw[Bool.false_and]
  refine acQ 52 Tryz.func38 rfl rfl fun _ _ _=> ?_
  (repeat'((conv=>whnf);first|refine zP ?_|refine Ac ?_|refine Ae ?_|refine Aa hB G9 ?_|exact zE))
 rw[h4] at hB
 rw[Bool.true_and]
 cases en with
 |false=>
  rw[Bool.false_and]
  refine acQ 52 Tryz.func38 rfl rfl fun _ _ _=> ?_
  (repeat'((conv=>whnf);first|refine zP ?_|refine Ac ?_|refine Ae ?_|refine Aa hB G9 ?_|refine Aa hN G9 ?_|exact zE))
 |true=>
  rw[Bool.true_and]
  cases h6:(ak==ak'&&av==av')
  ·rw[Bool.false_and]
   refine acQ 52 Tryz.func38 rfl rfl fun _ _ _=> ?_
   (repeat'((conv=>whnf);first|refine zP ?_|refine zN ?_|refine Ac ?_|refine Ae ?_|refine Aa hB G9 ?_|refine Aa hN G9 ?_|refine As (Ea rfl rfl (ltN rfl) rfl rfl) ?_|exact zE))
  ·rw[Bool.true_and]
   refine acQ 52 Tryz.func38 rfl rfl fun _ _ _=> ?_
   (repeat'((conv=>whnf);first|refine zP ?_|refine Ac ?_|refine Aa hB G9 ?_|refine Aa hN G9 ?_|refine As (Ea rfl rfl (ltN rfl) rfl rfl) ?_|exact zE))
theorem Ll (a b:List Gn) (ha:a.length≤1000000∧∀p∈a,p.eqs) (hb:b.length≤1000000∧∀p∈b,p.eqs):Ab Tryz.prog 43 [.d (G3 a),.d (G3 b)] (fun r=>r=bv (decide (a=b))):=by
 obtain⟨ha,hpa⟩:=ha
 obtain⟨hb,hpb⟩:=hb
 refine acQ 33 Tryz.func43 rfl rfl fun _ _ _=> ?_
 (all_goals(conv=>whnf))
 refine A1 (fun i:Nat=>i≤a.length∧i≤b.length∧a.take i=b.take i) (fun i=>a.length-i) (fun i=>⟨[(0,.d (G3 a)),(1,.d (G3 b)),(5,iv i)],[],[]⟩) 0 ⟨by omega,by omega,rfl⟩ leQ ?_
 rintro i ⟨hi,hj,ht⟩
 by_cases hik:i<a.length∧i<b.length
 ·obtain⟨k1,k2⟩:=hik
  have g1:decide ((i:Int)<a.length)=true:=decide_eq_true (by omega)
  have g2:decide ((i:Int)<b.length)=true:=decide_eq_true (by omega)
  obtain⟨x,hx⟩:∃p,a[i]?=some p:=⟨_,An k1⟩
  obtain⟨y,hy⟩:∃p,b[i]?=some p:=⟨_,An k2⟩
  have hB:=D1 x y (hpa x (Bi hx)) (hpb y (Bi hy))
  by_cases hq:x=y
  ·rw[decide_eq_true hq] at hB
   (repeat'((conv=>whnf);first|refine zP ?_|refine Ac ?_|refine Ae ?_|refine NIdx.tab (fun _=>rfl) hx ?_|refine NIdx.tab (fun _=>rfl) hy ?_|refine Aa hB G9 ?_|(with_reducible refine NInt.i64 ?_)|refine zF ?_));(all_goals(conv=>whnf))
   refine⟨i+1,⟨by omega,by omega,aQ ht hx (hq▸hy)⟩,by omega,?_⟩
   exact leQ
  ·rw[decide_eq_false hq] at hB
   rw[decide_eq_false (yC hx hy hq)]
   (repeat'((conv=>whnf);first|refine zP ?_|refine Ac ?_|refine NIdx.tab (fun _=>rfl) hx ?_|refine NIdx.tab (fun _=>rfl) hy ?_|refine Aa hB G9 ?_|refine zF ?_|exact zE))
 ·by_cases he:a.length=b.length
  ·have:=lH ht hik hi hj he
   subst this
   have g1:decide ((i:Int)<a.length)=false:=decide_eq_false (by omega)
   rw[decide_eq_true rfl]
   (repeat'((conv=>whnf);first|refine zN ?_|refine Ae ?_));(all_goals(conv=>whnf))
   all_goals(refine A9 ?_;(repeat'(first|refine And.intro ?_ ?_|exact rfl));(all_goals(conv=>whnf)))
   all_goals simp
  ·rw[decide_eq_false (fun e=>he (by rw[e]))]
   have g3:((a.length:Int)==b.length)=false:=by rw[beq_eq_false_iff_ne];omega
   by_cases k1:i<a.length
   ·have g1:decide ((i:Int)<a.length)=true:=decide_eq_true (by omega)
    have g2:decide ((i:Int)<b.length)=false:=decide_eq_false (by omega)
    (repeat'((conv=>whnf);first|refine zP ?_|refine zN ?_|refine Ac ?_));(all_goals(conv=>whnf))
    all_goals(refine A9 ?_;(repeat'(first|refine And.intro ?_ ?_|exact rfl));(all_goals(conv=>whnf)))
    all_goals exact g3
   ·have g1:decide ((i:Int)<a.length)=false:=decide_eq_false (by omega)
    (repeat'((conv=>whnf);first|refine zN ?_|refine Ae ?_));(all_goals(conv=>whnf))
    all_goals(refine A9 ?_;(repeat'(first|refine And.intro ?_ ?_|exact rfl));(all_goals(conv=>whnf)))
    all_goals exact g3
def Tr.isB (c n:Nat) (k:Bool):Tr→Bool
 | .mk c' n' k' _ _=>c'==c&&k'==k&&n'==n
theorem FP (t:Tr) (c n:Nat) (k:Bool):Ab Tryz.prog 160 [trF t,iv c,bv k,iv n] (fun r=>r=bv (t.isB c n k)):=by
 obtain⟨c',n',k',b,ks⟩:=t
 rw[Bt]
 refine acQ 25 Tryz.func160 rfl rfl fun _ _ _=> ?_
 (repeat'((conv=>whnf);first|refine Ac ?_|refine Ae ?_|(refine NBr.mk (fun hc=> ?_) (fun hc=> ?_)<;>(have hcP:=hc;(try simp only[zS] at hcP)<;>first|(exfalso;omega)|skip))));(all_goals(conv=>whnf))
 all_goals(refine Cf rfl (?_:_=_);try simp only[AV.dat])
 all_goals
  simp only[Gc] at*
  simp only[Tr.isB, *]
  first|rfl|(simp;done)
def okT (d:Nat) (p:List UInt8) (t:Tr):Prop:=One d p∧trD d p=t
theorem okT.up {d e:Nat} {p:List UInt8} {t:Tr} (h:okT d p t) (hd:d≤e):okT e p t:=by
 obtain⟨h1,h2⟩:=h.1.mono hd
 exact⟨h1,h2.trans h.2⟩
theorem okT.of {d:Nat} {p:List UInt8} (h:One d p):okT d p (trD d p):=⟨h,rfl⟩
theorem okT.prim (d:Nat) {c n:Nat} (l:List UInt8) (hc:c≤3) (hn:n≤30) (hl:l.length≤2147483600):okT (d+1) (Ah c n false l) (.mk c n false l []):=V2 l hc hn hl
theorem okT.con1 {d c n:Nat} {p:List UInt8} {t:Tr} (hc:c≤3) (hn:n≤30) (h:okT d p t) (hl:p.length≤2000000000):okT (d+1) (Ah c n true p) (.mk c n true [] [t]):=by
 have:=zD hc hn h.1 hl
 rw[h.2] at this;exact this
theorem okT.con2 {d c n:Nat} {p q:List UInt8} {t u:Tr} (hc:c≤3) (hn:n≤30) (h1:okT d p t) (h2:okT d q u) (hl:p.length+q.length≤2000000000):okT (d+1) (Ah c n true (p++q)) (.mk c n true [] [t,u]):=by
 have:=gE hc hn h1.1 h2.1 hl
 rw[h1.2,h2.2] at this;exact this
theorem Yx (n:Nat):1≤(Fh n).length:=by
 unfold Fh
 split
 ·rename_i h;rw[C5 (by omega)];simp
 ·simp
theorem tE {p:List UInt8} {c n:Nat} (h:Ek (Ah c n true p)=true) (hc:c≤3) (hn:n≤30) (hl:p.length≤2147483600):∃ks,okT 16 (Ah c n true p) (.mk c n true [] ks)∧Tr.encs ks=p:=by
 have ho:=Mv h
 obtain⟨e1,e2⟩:=ho.enc
 have hsh:=zC (t:=trD 16 (Ah c n true p)) ho
 generalize ht:trD 16 (Ah c n true p)=t at e1 e2 hsh
 obtain⟨c',n',k',v,ks⟩:=t
 rw[Tr.ok] at e1
 rw[Tr.enc] at e2
 have hlen:(v++Tr.encs ks).length≤2147483647:=by
  have:=congrArg List.length e2
  unfold Ah at this
  rw[E8,E8] at this
  have h1:=I3 p.length (by omega)
  have h2:1≤(Fh (v++Tr.encs ks).length).length:=Yx _
  omega
 have hj:=Tv.inj (t:=⟨c',n',k',v++Tr.encs ks⟩) (u:=⟨c,n,true,p⟩) (r:=[]) (s:=[]) ⟨e1.1,e1.2.1,hlen⟩ ⟨hc,hn,by show p.length≤_;omega⟩ (by rw[List.append_nil,List.append_nil];exact e2)
 have h2:=hj.1
 simp only[Tv.mk.injEq] at h2
 obtain⟨rfl,rfl,rfl,h3⟩:=h2
 have hv:v=[]:=hsh rfl
 subst hv
 exact⟨ks,⟨ho,ht⟩,h3⟩
theorem zR {g:Gn} (h:gnW g=true) (hs:g.mid):∃t:Tr,okT 20 (gnE g) t∧Bg t=g∧t.c=2∧(t.n:Int)=g.k∧t.k=D0 g.k:=by
 obtain⟨ha,hf,⟨c,hc⟩,hp⟩:=(Nr g).1 h
 obtain⟨n,hn,hk⟩:=O9 hc
 have hl:=hs.c
 rw[hc] at hl
 have hl:c.length≤700000:=hl
 have e:gnE g=Ah 2 n (D0 n) c:=by unfold gnE;rw[hc,hk];rfl
 have hr:=oH hk ha hc hp hs.s
 rw[e]
 obtain⟨k,oid,tx,by',nm,ak,av,pk,pv⟩:=g
 have hsm:=hs.s
 obtain⟨s1,s2,s3,s4,s5,s6⟩:=hsm
 simp only at hk s1 s2 s3 s4 s5 s6
 subst hk
 rcases(by omega:n=0∨n=1∨n=2∨n=3∨n=4∨n=5∨n=6∨n=7∨n=8) with rfl|rfl|rfl|rfl|rfl|rfl|rfl|rfl|rfl
 ·
  obtain⟨o',b',e1,e2,e3⟩:=oE (c:=c) (by omega) (by show(rdP 0 c).2=true;rw[hr])
  have e1:rdP 0 c=_:=e1
  rw[hr] at e1
  simp only[Prod.mk.injEq,Gn.mk.injEq,and_true] at e1
  obtain⟨-,rfl,rfl,rfl,rfl,rfl,rfl,rfl,rfl⟩:=e1
  have k1:=Fa oid
  have k2:=Ar 0 6 false (Bo oid) (by omega)
  have k3:=Ar 2 0 true by' (by omega)
  have ho:Ek by'=true:=hf
  have q1:=okT.prim 16 (c:=0) (n:=6) (Bo oid) (by omega) (by omega) (by omega)
  have q2:=okT.con1 (c:=2) (n:=0) (by omega) (by omega) (okT.of (Mv ho)) (by omega)
  have q3:=okT.con2 (c:=2) (n:=0) (by omega) (by omega) q1 q2 (by omega)
  rw[e3]
  refine⟨_,q3.up (by omega),?_,rfl,rfl,rfl⟩
  show(⟨0,odT (Bo oid),[],Tr.encs [trD 16 by'],[],0,[],0,[]⟩:Gn)=_
  rw[(U9 e2).1]
  have:Tr.encs [trD 16 by']=by':=by rw[Tr.encs,Tr.encs,List.append_nil,(Mv ho).enc.2]
  rw[this];rfl
 ·have q:=okT.prim 19 (c:=2) (n:=1) c (by omega) (by omega) (by omega)
  refine⟨_,q,?_,rfl,rfl,rfl⟩
  exact congrArg Prod.fst hr
 ·have q:=okT.prim 19 (c:=2) (n:=2) c (by omega) (by omega) (by omega)
  refine⟨_,q,?_,rfl,rfl,rfl⟩
  exact congrArg Prod.fst hr
 ·have hr':((⟨3,[],[],c,[],0,[],0,[]⟩:Gn),true)=_:=hr
  simp only[Prod.mk.injEq,Gn.mk.injEq,and_true] at hr'
  obtain⟨-,rfl,rfl,rfl,rfl,rfl,rfl,rfl,rfl⟩:=hr'
  have ho:Ek (Ah 2 3 true c)=true:=hf
  obtain⟨ks,q1,q2⟩:=tE ho (by omega) (by omega) (by omega)
  refine⟨_,q1.up (by omega),?_,rfl,rfl,rfl⟩
  show(⟨3,[],[],Tr.encs ks,[],0,[],0,[]⟩:Gn)=_
  rw[q2];rfl
 ·have hcc:(if nmV nm=true then some (nmE nm) else none)=some c:=hc
  by_cases hv:nmV nm=true
  ·rw[if_pos hv] at hcc
   obtain rfl:=Option.some.inj hcc
   obtain⟨a1,a2⟩:=KM hv s4
   have q:=okT.con1 (c:=2) (n:=4) (by omega) (by omega) (okT.of a1) (by omega)
   refine⟨_,q,?_,rfl,rfl,rfl⟩
   rw[D3] at ha
   obtain⟨b1,b2,b3,b4,b5⟩:=ha
   obtain rfl:oid=[]:=by simpa using b1
   obtain rfl:tx=[]:=by simpa using b2
   obtain rfl:by'=[]:=by simpa using b3
   obtain⟨⟨rfl,rfl⟩,rfl,rfl⟩:(ak=0∧av=[])∧pk=0∧pv=[]:=by simpa using b5
   show(⟨4,[],[],[],M0 (trD 19 (nmE nm)),0,[],0,[]⟩:Gn)=_
   rw[a2];rfl
  ·rw[if_neg hv] at hcc;cases hcc
 ·rw[D3] at ha
  obtain⟨b1,b2,b3,b4,b5⟩:=ha
  obtain rfl:oid=[]:=by simpa using b1
  obtain rfl:tx=[]:=by simpa using b2
  obtain rfl:by'=[]:=by simpa using b3
  obtain rfl:nm=[]:=by simpa using b4
  have hcc:My ⟨5,[],[],[],[],ak,av,pk,pv⟩=some c:=hc
  have hpp:((zT ak av||fiB ak av)&&fiB pk pv)=true:=hp
  rw[At] at hpp
  have v2:=K4 hpp.2
  have l2:=Gh v2 s6
  obtain⟨p1,p2,p3⟩:=zG v2 s6
  have w2:=okT.con1 (c:=2) (n:=1) (by omega) (by omega) (okT.of p1) (by omega)
  have x2:=Ar 2 1 true (txE pk pv) (by omega)
  unfold My at hcc
  simp only at hcc
  cases hz:zT ak av
  ·rw[hz,Bool.false_or] at hpp
   have v1:=K4 hpp.1
   have l1:=Gh v1 s5
   obtain⟨a1,a2,a3⟩:=zG v1 s5
   have w1:=okT.con1 (c:=2) (n:=0) (by omega) (by omega) (okT.of a1) (by omega)
   have x1:=Ar 2 0 true (txE ak av) (by omega)
   rw[hz,v1,v2] at hcc
   have hcc:some (Ah 2 0 true (txE ak av)++Ah 2 1 true (txE pk pv))=some c:=hcc
   obtain rfl:=Option.some.inj hcc
   have q:=okT.con2 (c:=2) (n:=5) (by omega) (by omega) w1 w2 (by omega)
   refine⟨_,q.up (by omega),?_,rfl,rfl,rfl⟩
   show(⟨5,[],[],[],[],N0 (trD 1 (txE ak av)),N1 (trD 1 (txE ak av)),N0 (trD 1 (txE pk pv)),N1 (trD 1 (txE pk pv))⟩:Gn)=_
   rw[a2,a3,p2,p3];rfl
  ·obtain⟨rfl,rfl⟩:=Rz.1 hz
   rw[hz,v2] at hcc
   have hcc:some (Ah 2 1 true (txE pk pv))=some c:=hcc
   obtain rfl:=Option.some.inj hcc
   have q:=okT.con1 (c:=2) (n:=5) (by omega) (by omega) w2 (by omega)
   refine⟨_,q.up (by omega),?_,rfl,rfl,rfl⟩
   show(⟨5,[],[],[],[],0,[],N0 (trD 1 (txE pk pv)),N1 (trD 1 (txE pk pv))⟩:Gn)=_
   rw[p2,p3];rfl
 ·have q:=okT.prim 19 (c:=2) (n:=6) c (by omega) (by omega) (by omega)
  refine⟨_,q,?_,rfl,rfl,rfl⟩
  exact congrArg Prod.fst hr
 ·have q:=okT.prim 19 (c:=2) (n:=7) c (by omega) (by omega) (by omega)
  refine⟨_,q,?_,rfl,rfl,rfl⟩
  exact congrArg Prod.fst hr
 ·have q:=okT.prim 19 (c:=2) (n:=8) c (by omega) (by omega) (by omega)
  refine⟨_,q,?_,rfl,rfl,rfl⟩
  exact congrArg Prod.fst hr
theorem zV {d:Nat} {p:List UInt8} {t:Tr} (h:okT d p t) (hd:d≤60):Cq p=t:=by
 have h':=h.up hd
 have h1:rT 60 p=⟨[trD 60 p],p.length,0,0⟩:=h'.1
 unfold Cq Db
 rw[h1,No (by omega)]
 exact h'.2
end Go.Proofs.YtaoahmplnckhpaaGreatDoor
