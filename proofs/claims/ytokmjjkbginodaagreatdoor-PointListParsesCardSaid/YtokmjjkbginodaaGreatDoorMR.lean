/- MR: the texts GenZ R11 R12 EqG T4 GenZ2, one behind the other. No condition but what each lemma says. -/
import Derived.Test.YtokmjjkbginodaaGreatDoorMP
import Derived.Test.YtokmjjkbginodaaGreatDoorMQ
set_option maxRecDepth 100000
set_option maxHeartbeats 16000000
namespace Go.Proofs.YtokmjjkbginodaaGreatDoor
open Go.RowKit
def Tr.c:Tr→Nat
 | .mk c _ _ _ _=>c
def Tr.k:Tr→Bool
 | .mk _ _ k _ _=>k
def bR (t:Tr) (i:Nat):List UInt8:=match t.ks[i]? with
 |some k=>k.enc
 |none=>[]
def Oi (t:Tr):Att:=⟨odT (t.kid 0).v,bR t 1⟩
def Ei (t:Tr):List Att:=t.ks.map Oi
def Na (t:Tr):List (List Att):=t.ks.map Ei
def isT (t:Tr) (c n:Nat) (k:Bool):Bool:=t.c==c&&(t.k==k&&t.n==n)
def Oj (t:Tr):Int:=Fl t.n t.v
def Ok (t:Tr):List UInt8:=Cu t.n t.v
def Bg (t:Tr):Gn:=match t.n with
 |0=>⟨0,odT (t.kid 0).v,[],Tr.encs (t.kid 1).ks,[],0,[],0,[]⟩
 |1=>⟨1,[],Cu 22 t.v,[],[],0,[],0,[]⟩
 |2=>⟨2,[],Cu 22 t.v,[],[],0,[],0,[]⟩
 |3=>⟨3,[],[],Tr.encs t.ks,[],0,[],0,[]⟩
 |4=>⟨4,[],[],[],Na (t.kid 0),0,[],0,[]⟩
 |5=>if isT (t.kid 0) 2 0 true then⟨5,[],[],[],[],Oj ((t.kid 0).kid 0),Ok ((t.kid 0).kid 0),Oj ((t.kid 1).kid 0),Ok ((t.kid 1).kid 0)⟩ else⟨5,[],[],[],[],0,[],Oj ((t.kid 0).kid 0),Ok ((t.kid 0).kid 0)⟩
 |6=>⟨6,[],Cu 22 t.v,[],[],0,[],0,[]⟩
 |7=>⟨7,[],[],t.v,[],0,[],0,[]⟩
 |8=>⟨8,odT t.v,[],[],[],0,[],0,[]⟩
 |n=>⟨n,[],[],[],[],0,[],0,[]⟩
theorem BH {d:Nat} {l:List UInt8} {t:Tr} {sz:Nat} (h:rT d l=⟨[t],sz,0,0⟩):t.k=true→t.v=[]:=by
 cases d with
 |zero=>simp[rT,TR.bad] at h
 |succ d=>
  rw[rT] at h
  unfold rTH at h
  split at h
  ·simp[TR.bad] at h
  ·split at h
   ·simp[TR.bad] at h
   ·split at h
    ·simp only[TR.mk.injEq,List.cons.injEq,and_true] at h
     obtain⟨rfl,-⟩:=h
     intro hk;cases hk
    ·split at h
     ·simp[TR.bad] at h
     ·simp only[TR.mk.injEq,List.cons.injEq,and_true] at h
      obtain⟨rfl,-⟩:=h
      intro _;rfl
theorem BI {d c n:Nat} {p:List UInt8} (hc:c≤3) (hn:n≤30) (h:One d p) (hl:p.length≤2000000000):One (d+1) (Ah c n true p)∧trD (d+1) (Ah c n true p)= .mk c n true [] [trD d p]:=by
 have:=Im (d:=d) [p] hc hn (fun q hq=>by rw[List.mem_singleton.1 hq];exact⟨h,by omega⟩) (by simp;omega)
 simpa using this
theorem gP {d c n:Nat} {p q:List UInt8} (hc:c≤3) (hn:n≤30) (h1:One d p) (h2:One d q) (hl:p.length+q.length≤2000000000):One (d+1) (Ah c n true (p++q))∧trD (d+1) (Ah c n true (p++q))= .mk c n true [] [trD d p,trD d q]:=by
 have:=Im (d:=d) [p,q] hc hn (fun x hx=>by
  rcases List.mem_cons.1 hx with rfl|hx
  ·exact⟨h1,by omega⟩
  ·rw[List.mem_singleton.1 hx];exact⟨h2,by omega⟩) (by simp;omega)
 simpa using this
theorem bS {a:Att} (h:atV a=true) (hs:a.sm):One 17 (atE a)∧Oi (trD 17 (atE a))=a:=by
 obtain⟨h1,h2⟩:=T1 h
 have k1:=Fd a.oid
 have o1:=hs.o
 have o2:=hs.v
 have k2:=As 0 6 false (Bq a.oid) (by omega)
 obtain⟨b1,b2⟩:=Wc (d:=15) (c:=0) (n:=6) (Bq a.oid) (by omega) (by omega) (by omega)
 have hv:=M5 h2
 obtain⟨c1,c2⟩:=gP (d:=16) (c:=0) (n:=16) (by omega) (by omega) b1 hv (by omega)
 refine⟨c1,?_⟩
 have e:trD 17 (atE a)= .mk 0 16 true [] [trD 16 (Ah 0 6 false (Bq a.oid)),trD 16 a.val]:=c2
 rw[e]
 show(⟨odT (trD 16 (Ah 0 6 false (Bq a.oid))).v,(trD 16 a.val).enc⟩:Att)=a
 rw[b2,hv.enc.2]
 show(⟨odT (Bq a.oid),a.val⟩:Att)=a
 rw[(Vi h1).1]
theorem pJ {r:List Att} (h:Eh r=true) (hz:rdnZ r):One 18 (Ct r)∧Ei (trD 18 (Ct r))=r:=by
 obtain⟨h0,h1,h2⟩:=N6 h
 obtain⟨hl,hs,hq⟩:=hz
 obtain⟨c1,c2⟩:=Im (d:=17) (c:=0) (n:=17) (r.map atE) (by omega) (by omega) (fun p hp=>by
  obtain⟨a,ha,rfl⟩:=List.mem_map.1 hp
  have:=T2 (hs a ha)
  have:=(hs a ha).o
  have:=(hs a ha).v
  exact⟨(bS (List.all_eq_true.1 h1 a ha) (hs a ha)).1,by omega⟩) (by omega)
 refine⟨c1,?_⟩
 have e:trD 18 (Ct r)= .mk 0 17 true [] ((r.map atE).map (trD 17)):=c2
 rw[e]
 show((r.map atE).map (trD 17)).map Oi=r
 rw[List.map_map,List.map_map]
 conv=>rhs;rw[←List.map_id r]
 exact List.map_congr_left fun a ha=>(bS (List.all_eq_true.1 h1 a ha) (hs a ha)).2
theorem MI {n:List (List Att)} (h:nmV n=true) (hs:nmZ n):One 19 (nmE n)∧Na (trD 19 (nmE n))=n:=by
 have he:=hs.e
 obtain⟨c1,c2⟩:=Im (d:=18) (c:=0) (n:=16) (n.map Ct) (by omega) (by omega) (fun p hp=>by
  obtain⟨r,hr,rfl⟩:=List.mem_map.1 hp
  have:=AK (hs.r r hr)
  have:=(hs.r r hr).e
  exact⟨(pJ (List.all_eq_true.1 h r hr) (hs.r r hr)).1,by omega⟩) (by omega)
 refine⟨c1,?_⟩
 have e:trD 19 (nmE n)= .mk 0 16 true [] ((n.map Ct).map (trD 18)):=c2
 rw[e]
 show((n.map Ct).map (trD 18)).map Ei=n
 rw[List.map_map,List.map_map]
 conv=>rhs;rw[←List.map_id n]
 exact List.map_congr_left fun r hr=>(pJ (List.all_eq_true.1 h r hr) (hs.r r hr)).2
theorem BJ {k:Int} {l:List UInt8} (h:Aq k l=true) (hl:l.length≤3000000):One 1 (txE k l)∧Oj (trD 1 (txE k l))=k∧Ok (trD 1 (txE k l))=l:=by
 obtain⟨n,h1,h2,rfl⟩:=Qz h
 have h4:=Gx h
 obtain⟨b1,b2⟩:=Wc (d:=0) (c:=0) (n:=n) (chS (n:Int) l) (by omega) h2 (by omega)
 have e:txE (n:Int) l=Ah 0 n false (chS (n:Int) l):=by unfold txE;rw[Int.toNat_natCast]
 rw[e]
 obtain⟨c1,c2,-⟩:=R5 h
 refine⟨b1,?_,?_⟩
 ·rw[b2];exact c1
 ·rw[b2];exact c2
theorem Kh {p:Prop} (h:p:=by first|rfl|(simp only[AV.gives,AV.ren,AV.give,D.un,D.uns,An,Ao,List.nil_append,List.append_nil,List.cons_append,Av,A9,K3,Bx,Bf,Y4,Tr.cellss_un,Bn,Bd,Ck];first|done|rfl)):p:=h
theorem gQ (a:Att) (ho:a.oid.length≤3500000) (hv:a.val.length≤1000000000):Ab Tryz.prog 165 [atA a] (fun r=>r=bv (atV a)):=by
 have hV:=Kf a.oid ho
 have hO:=Pj a.val hv
 unfold atV
 cases h:E6 a.oid
 ·rw[h] at hV
  refine acQ 11 Tryz.func165 rfl rfl fun _ _ _=> ?_
  (repeat'((conv=>whnf);first|refine Ae ?_|refine Aa hV rfl ?_|exact zE))
 ·rw[h] at hV
  rw[Bool.true_and]
  refine acQ 11 Tryz.func165 rfl rfl fun _ _ _=> ?_
  (repeat'((conv=>whnf);first|refine Ac ?_|refine Aa hV rfl ?_|refine Aa hO Kh ?_|exact zE))
theorem BK (a:Att) (ho:a.oid.length≤3500000) (hv:a.val.length≤100000000):Ab Tryz.prog 173 [atA a] (fun r=>r=if atV a=true then .tup [Bb 0 5 (atE a),iv 0] else .tup [A4,iv 8]):=by
 have hV:=gQ a ho (by omega)
 cases h:atV a
 ·rw[if_neg (by simp)]
  rw[h] at hV
  refine acQ 14 Tryz.func173 rfl rfl fun _ _ _=> ?_
  (repeat'((conv=>whnf);first|refine Ac ?_|refine Aa hV Kh ?_|exact zE))
 ·rw[if_pos rfl]
  rw[h] at hV
  have hO:=Wa a.oid ho
  have k1:=Fd a.oid
  have k2:=As 0 6 false (Bq a.oid) (by omega)
  have hP:=F1 48 [R1 a.oid,a.val] (by simp) (by simp[R1];omega)
  rw[show Kb 48 [R1 a.oid,a.val].flatten=atE a by simp only[List.flatten_cons,List.flatten_nil,List.append_nil];rfl] at hP
  have hP:Ab Tryz.prog 62 [cv 48,.d (Ds [R1 a.oid,a.val])] (fun r=>r=Bb 0 5 (atE a)):=hP
  generalize R1 a.oid=ob at hO hP
  refine acQ 14 Tryz.func173 rfl rfl fun _ _ _=> ?_
  (repeat'((conv=>whnf);first|refine Ae ?_|refine Aa hV Kh ?_|refine Aa hO rfl ?_|refine Aa hP Kh ?_|refine zF ?_|exact zE))
theorem BL (t:Tr) (i:Nat) (hi:i≤1000000) (hk:∀k,t.ks[i]?=some k→k.ok∧k.enc.length≤900000000):Ab Tryz.prog 158 [trF t,iv i] (fun r=>r= .d (Af true (bR t i))):=by
 obtain⟨c,n,k,b,ks⟩:=t
 have g0:decide ((i:Int)<0)=false:=decide_eq_false (by omega)
 rw[Bv]
 unfold bR
 simp only[Tr.ks] at hk⊢
 by_cases h:i<ks.length
 ·have g1:decide ((i:Int)≥ks.length)=false:=decide_eq_false (by omega)
  obtain⟨x,hx⟩:∃x,ks[i]?=some x:=⟨_,Am h⟩
  obtain⟨h1,h2⟩:=hk x hx
  have hB:=Pi x h1 h2
  rw[hx]
  simp only
  generalize x.enc=e at hB
  obtain⟨c',n',k',b',ks'⟩:=x
  rw[Bv] at hB
  refine acQ 20 Tryz.func158 rfl rfl fun _ _ _=> ?_
  (repeat'((conv=>whnf);first|refine zN ?_|refine Ae ?_|(refine Fc hx ?_)|refine Aa hB Kh ?_|exact zE))
 ·have g1:decide ((i:Int)≥ks.length)=true:=decide_eq_true (by omega)
  rw[List.getElem?_eq_none (by omega)]
  refine acQ 20 Tryz.func158 rfl rfl fun _ _ _=> ?_
  (repeat'((conv=>whnf);first|refine zP ?_|refine zN ?_|refine Ae ?_|exact zE))
abbrev atQ (a:Att):AV:= .agg [.d (sD a.oid),.d (Af true a.val)]
structure Tr.at (t:Tr):Prop where
 o:(t.kid 0).v.length≤30000
 v:∀k,t.ks[1]?=some k→k.ok∧k.enc.length≤900000000
theorem BN (t:Tr) (ht:t.at):Ab Tryz.prog 116 [trF t] (fun r=>r=atQ (Oi t)):=by
 have hK:=Il t 0 (by omega)
 have hR:=M4 (t.kid 0) ht.o
 have hO:=BL t 1 (by omega) ht.v
 unfold Oi
 generalize odT (t.kid 0).v=o at hR⊢
 generalize t.kid 0=k0 at hK hR
 generalize bR t 1=e at hO⊢
 obtain⟨c,n,k,b,ks⟩:=t
 obtain⟨c',n',k',b',ks'⟩:=k0
 rw[Bv] at hK hR hO
 rw[Bv] at hK⊢
 refine acQ 9 Tryz.func116 rfl rfl fun _ _ _=> ?_
 (repeat'((conv=>whnf);first|refine Aa hK Kh ?_|refine Aa hR Kh ?_|refine Aa hO Kh ?_|refine zF ?_|exact zE))
theorem BO (k:Int) (l:List UInt8) (hl:l.length≤16777216):Ab Tryz.prog 133 [txA k l] (fun r=>r=frS k l):=by
 have hE:=Ha k l hl
 unfold frS
 cases hv:Aq k l
 ·rw[show Fh k l=[] by unfold Fh;rw[hv];rfl,show I2 k l=8 by unfold I2;rw[hv];rfl] at hE
  rw[if_neg (by simp)]
  clear hv
  refine acQ 18 Tryz.func133 rfl rfl fun _ _ _=> ?_
  (repeat'((conv=>whnf);first|refine Ac ?_|refine Aa hE rfl ?_|exact zE))
 ·rw[show Fh k l=chS k l by unfold Fh;rw[hv];rfl,show I2 k l=0 by unfold I2;rw[hv];rfl] at hE
  have hW4:Ar k≤4:=by unfold Ar;(repeat' split)<;>omega
  have hch:(chS k l).length≤4*l.length:=by
   have:=M9 (f:=Jl (Ar k)) (m:=4) (fun x=>Me _ x hW4) (rns l)
   rw[Ko hv] at this
   have:=Q3 l (by unfold Aq at hv;simp at hv;exact hv.1.1);omega
  have hk:¬Ar k<0:=by unfold Aq at hv;simp at hv;omega
  rw[if_pos rfl]
  have hP:Ab Tryz.prog 94 [cv (UInt8.ofNat k.toNat).toNat,.d (Af false (chS k l))] (fun r=>r=Bb 0 5 (txE k l)):=by
   have:=Dc (UInt8.ofNat k.toNat) (chS k l) (by omega)
   rw[show Kb (UInt8.ofNat k.toNat) (chS k l)=txE k l from ?_] at this
   ·exact this
   ·unfold txE Ah;rw[show idN ((0:Nat):Int) false (k.toNat:Int)=k.toNat by rw[AD];simp]
  generalize chS k l=ch at hE hP
  generalize txE k l=e at hP⊢
  clear hv
  obtain⟨q,rfl⟩:∃q:Nat,k=q:=⟨k.toNat,by rcases Dl k hk with rfl|rfl|rfl|rfl|rfl|rfl|rfl<;>rfl⟩
  rw[Int.toNat_natCast] at hP
  refine acQ 18 Tryz.func133 rfl rfl fun _ _ _=> ?_
  (repeat'((conv=>whnf);first|refine Ae ?_|refine Aa hE rfl ?_|(with_reducible refine Bi (q) ?_)|refine Aa hP Kh ?_|exact zE))
theorem gR (t:Tr) (hl:t.v.length≤1000000):Ab Tryz.prog 124 [trF t] (fun r=>r=txA (Oj t) (Ok t)):=by
 obtain⟨c,n,k,b,ks⟩:=t
 have hD:=Io n b hl
 rw[Bv]
 refine acQ 14 Tryz.func124 rfl rfl fun _ _ _=> ?_
 (repeat'((conv=>whnf);refine Aa hD Kh ?_));(all_goals(conv=>whnf))
 all_goals exact zE
theorem Y9 (k:Int) (l:List UInt8) (hl:l.length≤16777216):Ab Tryz.prog 171 [txA k l] (fun r=>r=bv (fiB k l)):=by
 have hV:=H9 k l hl
 unfold fiB
 cases hv:Aq k l
 ·rw[hv] at hV
  clear hv
  refine acQ 19 Tryz.func171 rfl rfl fun _ _ _=> ?_
  (repeat'((conv=>whnf);first|refine Ac ?_|refine Aa hV rfl ?_|exact zE))
 ·have hk:¬Ar k<0:=by unfold Aq at hv;simp at hv;omega
  rw[hv] at hV
  clear hv
  cases l with
  |nil=>
   refine acQ 19 Tryz.func171 rfl rfl fun _ _ _=> ?_
   (repeat'((conv=>whnf);first|refine Ac ?_|refine Ae ?_|refine Aa hV rfl ?_|exact zE))
  |cons x r=>
   have g:(x::r==[])=false:=rfl
   rw[g]
   rcases Dl k hk with rfl|rfl|rfl|rfl|rfl|rfl|rfl
   all_goals
    refine acQ 19 Tryz.func171 rfl rfl fun _ _ _=> ?_
    (repeat'((conv=>whnf);first|refine zN ?_|refine Ac ?_|refine Ae ?_|refine Aa hV rfl ?_|exact zE))
theorem Fv {p:Prop} (h:p:=by first|rfl|(simp only[AV.gives,AV.ren,AV.give,D.un,D.uns,An,Ao,List.nil_append,List.append_nil,List.cons_append,Av,A9,K3,Bx,Bf,Y4,Tr.cellss_un,Bn,Bd,Ck,Bw,Bl,oW,Y5];first|done|rfl)):p:=h
theorem Wu (r:List Att) (hz:rdnZ r) (hv:r.all atV=true):Ab Tryz.prog 128 [.d (Hh r)] (fun x=>x= .d (AF (r.map atE))):=by
 obtain⟨hr,hs,he⟩:=hz
 refine acQ 26 Tryz.func128 rfl rfl fun _ _ _=> ?_
 (all_goals(conv=>whnf))
 refine A5 [.s 3 1 22] (fun i:Nat=>i≤r.length) (fun i=>r.length-i) (fun i=>⟨[(0,.d (Hh r)),(3,Bx 3 1 22 Dn ((r.take i).map atE)),(4,iv i)],[],[(3,(((r.take i).map atE).length,1,22))]⟩) 0 (by omega) leQ ?_
 rintro i hi
 have hml:((r.take i).map atE).length≤100000:=by rw[List.length_map,Al];omega
 by_cases hik:i<r.length
 ·have gi:decide ((i:Int)<r.length)=true:=decide_eq_true (by omega)
  obtain⟨x,hg⟩:∃p,r[i]?=some p:=⟨_,Am hik⟩
  have hx:=hs x (A8 hg)
  have hM:=BK x (by have:=hx.o;omega) (by have:=hx.v;omega)
  rw[if_pos (List.all_eq_true.1 hv x (A8 hg))] at hM
  have hs1:=Fe atE hg
  generalize atE x=e at hM hs1
  (repeat'((conv=>whnf);first|refine zP ?_|refine NIdx.tab (fun _=>rfl) hg ?_|refine Aa hM Fv ?_|refine A2 Dn e ?_|(with_reducible refine NInt.i64 ?_)));(all_goals(conv=>whnf))
  refine⟨i+1,by omega,by omega,?_⟩
  rw[hs1]
  exact leQ
 ·have gi:decide ((i:Int)<r.length)=false:=decide_eq_false (by omega)
  obtain rfl:i=r.length:=by omega
  rw[List.take_length]
  (repeat'((conv=>whnf);refine zN ?_));(all_goals(conv=>whnf))
  all_goals exact zE
theorem R8 (r:List Att) (hz:rdnZ r):Ab Tryz.prog 125 [.d (Hh r)] (fun x=>x=bv (Eh r)):=by
 obtain⟨hr,hs,he⟩:=hz
 have bad:r.all atV=false→Eh r=false:=fun h=>by unfold Eh;rw[h];simp
 refine acQ 24 Tryz.func125 rfl rfl fun _ _ _=> ?_
 (all_goals(conv=>whnf))
 refine Ax (fun i:Nat=>i≤r.length∧(r.take i).all atV=true) (fun i=>r.length-i) (fun i=>⟨[(0,.d (Hh r)),(3,iv i)],[],[]⟩) 0 ⟨by omega,rfl⟩ leQ ?_
 rintro i ⟨hi,ha⟩
 by_cases hik:i<r.length
 ·have gi:decide ((i:Int)<r.length)=true:=decide_eq_true (by omega)
  obtain⟨x,hg⟩:∃p,r[i]?=some p:=⟨_,Am hik⟩
  have hx:=hs x (A8 hg)
  have hV:=gQ x (by have:=hx.o;omega) (by have:=hx.v;omega)
  cases h1:atV x
  ·rw[h1] at hV
   rw[bad (by
    cases hh:r.all atV with
    |false=>rfl
    |true=>rw[List.all_eq_true.1 hh x (A8 hg)] at h1;cases h1)]
   (repeat'((conv=>whnf);first|refine zP ?_|refine Ac ?_|refine NIdx.tab (fun _=>rfl) hg ?_|refine Aa hV Fv ?_|exact zE))
  ·rw[h1] at hV
   (repeat'((conv=>whnf);first|refine zP ?_|refine Ae ?_|refine NIdx.tab (fun _=>rfl) hg ?_|refine Aa hV Fv ?_|(with_reducible refine NInt.i64 ?_)));(all_goals(conv=>whnf))
   refine⟨i+1,⟨by omega,Gw atV hg h1 ha⟩,by omega,?_⟩
   exact leQ
 ·have gi:decide ((i:Int)<r.length)=false:=decide_eq_false (by omega)
  obtain rfl:i=r.length:=by omega
  rw[List.take_length] at ha
  have hP:=Wu r ⟨hr,hs,he⟩ ha
  have hO:=aK (r.map atE) (by rw[List.length_map];omega) (fun p hp=>by
   obtain⟨a,ha,rfl⟩:=List.mem_map.1 hp
   have:=T2 (hs a ha);have:=(hs a ha).o;have:=(hs a ha).v;omega)
  have e:Eh r=(!r.isEmpty&&G6 (r.map atE)):=by unfold Eh;rw[ha,Bool.true_and]
  rw[e]
  by_cases h0:r.length>0
  ·have g0:decide ((r.length:Int)>0)=true:=decide_eq_true (by omega)
   rw[show r.isEmpty=false by cases r<;>simp at h0⊢]
   (repeat'((conv=>whnf);first|refine zP ?_|refine zN ?_|refine Ac ?_|refine Aa hP Fv ?_|refine Aa hO Fv ?_|exact zE))
  ·have g0:decide ((r.length:Int)>0)=false:=decide_eq_false (by omega)
   rw[show r.isEmpty=true by cases r<;>simp at h0⊢]
   (repeat'((conv=>whnf);first|refine zN ?_|refine Ae ?_|exact zE))
theorem Za (r:List Att) (hz:rdnZ r):Ab Tryz.prog 95 [.d (Hh r)] (fun x=>x=if Eh r=true then .tup [Bb 0 5 (Ct r),iv 0] else .tup [A4,iv 8]):=by
 have hV:=R8 r hz
 cases h:Eh r
 ·rw[if_neg (by simp)]
  rw[h] at hV
  refine acQ 10 Tryz.func95 rfl rfl fun _ _ _=> ?_
  (repeat'((conv=>whnf);first|refine Ac ?_|refine Aa hV Fv ?_|exact zE))
 ·rw[if_pos rfl]
  rw[h] at hV
  have hP:=Wu r hz (by unfold Eh at h;simp at h;simp;exact h.2.1)
  have hU:Ab Tryz.prog 62 [cv 49,.d (Ds (r.map atE))] (fun x=>x=Bb 0 5 (Ct r)):=F1 49 (r.map atE) (by rw[List.length_map];have:=hz.l;omega) (by have:=hz.e;omega)
  refine acQ 10 Tryz.func95 rfl rfl fun _ _ _=> ?_
  (repeat'((conv=>whnf);first|refine Ae ?_|refine Aa hV Fv ?_|refine Aa hP Fv ?_|refine Aa hU Fv ?_|exact zE))
theorem gS (n:List (List Att)) (hn:nmZ n):Ab Tryz.prog 170 [.d (Hi n)] (fun x=>x=bv (nmV n)):=by
 obtain⟨hr,hs,-⟩:=hn
 unfold nmV
 refine acQ 16 Tryz.func170 rfl rfl fun _ _ _=> ?_
 (all_goals(conv=>whnf))
 refine Ax (fun i:Nat=>i≤n.length∧(n.take i).all Eh=true) (fun i=>n.length-i) (fun i=>⟨[(0,.d (Hi n)),(3,iv i)],[],[]⟩) 0 ⟨by omega,rfl⟩ leQ ?_
 rintro i ⟨hi,ha⟩
 by_cases hik:i<n.length
 ·have gi:decide ((i:Int)<n.length)=true:=decide_eq_true (by omega)
  obtain⟨x,hg⟩:∃p,n[i]?=some p:=⟨_,Am hik⟩
  have hx:=hs x (A8 hg)
  have hV:=R8 x hx
  cases h1:Eh x
  ·rw[h1] at hV
   rw[show n.all Eh=false by
    cases hh:n.all Eh with
    |false=>rfl
    |true=>rw[List.all_eq_true.1 hh x (A8 hg)] at h1;cases h1]
   (repeat'((conv=>whnf);first|refine zP ?_|refine Ac ?_|refine NIdx.tab (fun _=>rfl) hg ?_|refine Aa hV Fv ?_|exact zE))
  ·rw[h1] at hV
   (repeat'((conv=>whnf);first|refine zP ?_|refine Ae ?_|refine NIdx.tab (fun _=>rfl) hg ?_|refine Aa hV Fv ?_|(with_reducible refine NInt.i64 ?_)));(all_goals(conv=>whnf))
   refine⟨i+1,⟨by omega,Gw Eh hg h1 ha⟩,by omega,?_⟩
   exact leQ
 ·have gi:decide ((i:Int)<n.length)=false:=decide_eq_false (by omega)
  obtain rfl:i=n.length:=by omega
  rw[List.take_length] at ha
  rw[ha]
  (repeat'((conv=>whnf);refine zN ?_));(all_goals(conv=>whnf))
  all_goals exact zE
theorem BP (n:List (List Att)) (hn:nmZ n):Ab Tryz.prog 132 [.d (Hi n)] (fun x=>x=if nmV n=true then .tup [Bb 0 5 (nmE n),iv 0] else .tup [A4,iv 8]):=by
 have hV:=gS n hn
 obtain⟨hr,hs,hE⟩:=hn
 cases h:nmV n
 ·rw[if_neg (by simp)]
  rw[h] at hV
  refine acQ 31 Tryz.func132 rfl rfl fun _ _ _=> ?_
  (repeat'((conv=>whnf);first|refine Ac ?_|refine Aa hV Fv ?_|exact zE))
 ·rw[if_pos rfl]
  rw[h] at hV
  have hU:Ab Tryz.prog 62 [cv 48,.d (Ds (n.map Ct))] (fun x=>x=Bb 0 5 (nmE n)):=F1 48 (n.map Ct) (by rw[List.length_map];omega) (by omega)
  refine acQ 31 Tryz.func132 rfl rfl fun _ _ _=> ?_
  (repeat'((conv=>whnf);first|refine Ae ?_|refine Aa hV Fv ?_));(all_goals(conv=>whnf))
  refine A5 [.s 4 1 22] (fun i:Nat=>i≤n.length) (fun i=>n.length-i) (fun i=>⟨[(0,.d (Hi n)),(4,Bx 4 1 22 Dn ((n.take i).map Ct)),(5,iv i)],[],[(4,(((n.take i).map Ct).length,1,22))]⟩) 0 (by omega) leQ ?_
  rintro i hi
  have hml:((n.take i).map Ct).length≤100000:=by rw[List.length_map,Al];omega
  by_cases hik:i<n.length
  ·have gi:decide ((i:Int)<n.length)=true:=decide_eq_true (by omega)
   obtain⟨x,hg⟩:∃p,n[i]?=some p:=⟨_,Am hik⟩
   have hx:=hs x (A8 hg)
   have hM:=Za x hx
   rw[if_pos (List.all_eq_true.1 h x (A8 hg))] at hM
   have hs1:=Fe Ct hg
   generalize Ct x=e at hM hs1
   (repeat'((conv=>whnf);first|refine zP ?_|refine NIdx.tab (fun _=>rfl) hg ?_|refine Aa hM Fv ?_|refine A2 Dn e ?_|(with_reducible refine NInt.i64 ?_)));(all_goals(conv=>whnf))
   refine⟨i+1,by omega,by omega,?_⟩
   rw[hs1]
   exact leQ
  ·have gi:decide ((i:Int)<n.length)=false:=decide_eq_false (by omega)
   obtain rfl:i=n.length:=by omega
   rw[List.take_length]
   (repeat'((conv=>whnf);first|refine zN ?_|refine Aa hU Fv ?_|exact zE))
theorem Zb (t:Tr) (hn:t.ks.length≤100000) (hk:∀k∈t.ks,k.at):Ab Tryz.prog 89 [trF t] (fun r=>r= .d (Jn (Ei t))):=by
 obtain⟨c,n,k,b,ks⟩:=t
 rw[Bv]
 unfold Ei
 simp only[Tr.ks] at hn hk⊢
 refine acQ 22 Tryz.func89 rfl rfl fun _ _ _=> ?_
 (all_goals(conv=>whnf))
 refine A5 [.s 3 2 125] (fun i:Nat=>i≤ks.length) (fun i=>ks.length-i) (fun i=>⟨[(1,.ptr 1 0),(3,Bx 3 2 125 atU ((ks.take i).map Oi)),(4,iv i)],[(1,[iv c,iv n,bv k,.d (Af false b),.d (.sl false ks.length 5 (Tr.cellss false ks))])],[(3,(((ks.take i).map Oi).length,2,125))]⟩) 0 (by omega) leQ ?_
 rintro i hi
 have hml:((ks.take i).map Oi).length≤100000:=by rw[List.length_map,Al];omega
 by_cases hik:i<ks.length
 ·have gi:decide ((i:Int)<ks.length)=true:=decide_eq_true (by omega)
  obtain⟨x,hg⟩:∃p,ks[i]?=some p:=⟨_,Am hik⟩
  have hR:=BN x (hk x (A8 hg))
  have hs:=Fe Oi hg
  generalize Oi x=a at hR hs
  obtain⟨c',n',k',b',ks'⟩:=x
  rw[Bv] at hR
  (repeat'((conv=>whnf);first|refine zP ?_|(refine Fc hg ?_)|refine Aa hR Fv ?_|refine A2 atU a ?_|(with_reducible refine NInt.i64 ?_)));(all_goals(conv=>whnf))
  refine⟨i+1,by omega,by omega,?_⟩
  rw[hs]
  exact leQ
 ·have gi:decide ((i:Int)<ks.length)=false:=decide_eq_false (by omega)
  obtain rfl:i=ks.length:=by omega
  rw[List.take_length]
  (repeat'((conv=>whnf);refine zN ?_));(all_goals(conv=>whnf))
  all_goals exact zE
structure Tr.nm (t:Tr):Prop where
 l:t.ks.length≤100000
 k:∀k∈t.ks,k.ks.length≤100000∧∀j∈k.ks,j.at
theorem BQ (t:Tr) (ht:t.nm):Ab Tryz.prog 122 [trF t] (fun r=>r= .d (Oy (Na t))):=by
 obtain⟨hn,hk⟩:=ht
 obtain⟨c,n,k,b,ks⟩:=t
 rw[Bv]
 unfold Na
 simp only[Tr.ks] at hn hk⊢
 refine acQ 22 Tryz.func122 rfl rfl fun _ _ _=> ?_
 (all_goals(conv=>whnf))
 refine A5 [.s 3 1 26] (fun i:Nat=>i≤ks.length) (fun i=>ks.length-i) (fun i=>⟨[(1,.ptr 1 0),(3,Bx 3 1 26 S3 ((ks.take i).map Ei)),(4,iv i)],[(1,[iv c,iv n,bv k,.d (Af false b),.d (.sl false ks.length 5 (Tr.cellss false ks))])],[(3,(((ks.take i).map Ei).length,1,26))]⟩) 0 (by omega) leQ ?_
 rintro i hi
 have hml:((ks.take i).map Ei).length≤100000:=by rw[List.length_map,Al];omega
 by_cases hik:i<ks.length
 ·have gi:decide ((i:Int)<ks.length)=true:=decide_eq_true (by omega)
  obtain⟨x,hg⟩:∃p,ks[i]?=some p:=⟨_,Am hik⟩
  obtain⟨h1,h2⟩:=hk x (A8 hg)
  have hR:=Zb x h1 h2
  have hs:=Fe Ei hg
  generalize Ei x=a at hR hs
  obtain⟨c',n',k',b',ks'⟩:=x
  rw[Bv] at hR
  (repeat'((conv=>whnf);first|refine zP ?_|(refine Fc hg ?_)|refine Aa hR Fv ?_|refine A2 S3 a ?_|(with_reducible refine NInt.i64 ?_)));(all_goals(conv=>whnf))
  refine⟨i+1,by omega,by omega,?_⟩
  rw[hs]
  exact leQ
 ·have gi:decide ((i:Int)<ks.length)=false:=decide_eq_false (by omega)
  obtain rfl:i=ks.length:=by omega
  rw[List.take_length]
  (repeat'((conv=>whnf);refine zN ?_));(all_goals(conv=>whnf))
  all_goals exact zE
structure Att.eqs (a:Att):Prop where
 v:a.val.length≤1000000000
def BR (r:List Att):Prop:=r.length≤1000000∧∀a∈r,a.eqs
def IC (n:List (List Att)):Prop:=n.length≤1000000∧∀r∈n,BR r
structure Gn.eqs (g:Gn):Prop where
 b:g.by'.length≤1000000000
 n:IC g.nm
theorem MJ (a b:Att):decide (a=b)=(a.oid==b.oid&&a.val==b.val):=by
 obtain⟨o,v⟩:=a;obtain⟨o',v'⟩:=b
 rw[Bool.eq_iff_iff];simp
theorem PO (a b:Gn):decide (a=b)=(a.k==b.k&&(a.oid==b.oid&&(a.tx==b.tx&&(a.by'==b.by'&&(decide (a.nm=b.nm)&&((a.ak==b.ak&&a.av==b.av)&&(a.pk==b.pk&&a.pv==b.pv))))))):=by
 obtain⟨k,o,t,b1,n,ak,av,pk,pv⟩:=a;obtain⟨k',o',t',b1',n',ak',av',pk',pv'⟩:=b
 rw[Bool.eq_iff_iff];simp[and_assoc]
theorem Hb {p:Prop} (h:p:=by first|rfl|(simp only[AV.gives,AV.ren,AV.give,D.un,D.uns,An,Ao,List.nil_append,List.append_nil,List.cons_append,Av,A9,Ca,Bn,Bd,B8,Ck];first|done|rfl)):p:=h
theorem ID (a b:Att) (ha:a.eqs) (hb:b.eqs):Ab Tryz.prog 64 [atA a,atA b] (fun r=>r=bv (decide (a=b))):=by
 have hB:=Cw false false a.val b.val ha.v hb.v
 rw[MJ]
 cases h:(a.oid==b.oid)
 ·refine acQ 17 Tryz.func64 rfl rfl fun _ _ _=> ?_
  (repeat'((conv=>whnf);first|refine zN ?_|refine Ae ?_|exact zE))
 ·rw[Bool.true_and]
  refine acQ 17 Tryz.func64 rfl rfl fun _ _ _=> ?_
  (repeat'((conv=>whnf);first|refine zP ?_|refine Ac ?_|refine Aa hB Hb ?_|exact zE))
theorem pL (a b:List Att) (ha:a.length≤1000000∧∀p∈a,p.eqs) (hb:b.length≤1000000∧∀p∈b,p.eqs):Ab Tryz.prog 32 [.d (Hh a),.d (Hh b)] (fun r=>r=bv (decide (a=b))):=by
 obtain⟨ha,hpa⟩:=ha
 obtain⟨hb,hpb⟩:=hb
 refine acQ 33 Tryz.func32 rfl rfl fun _ _ _=> ?_
 (all_goals(conv=>whnf))
 refine Ax (fun i:Nat=>i≤a.length∧i≤b.length∧a.take i=b.take i) (fun i=>a.length-i) (fun i=>⟨[(0,.d (Hh a)),(1,.d (Hh b)),(5,iv i)],[],[]⟩) 0 ⟨by omega,by omega,rfl⟩ leQ ?_
 rintro i ⟨hi,hj,ht⟩
 by_cases hik:i<a.length∧i<b.length
 ·obtain⟨k1,k2⟩:=hik
  have g1:decide ((i:Int)<a.length)=true:=decide_eq_true (by omega)
  have g2:decide ((i:Int)<b.length)=true:=decide_eq_true (by omega)
  obtain⟨x,hx⟩:∃p,a[i]?=some p:=⟨_,Am k1⟩
  obtain⟨y,hy⟩:∃p,b[i]?=some p:=⟨_,Am k2⟩
  have hB:=ID x y (hpa x (A8 hx)) (hpb y (A8 hy))
  by_cases hq:x=y
  ·rw[decide_eq_true hq] at hB
   (repeat'((conv=>whnf);first|refine zP ?_|refine Ac ?_|refine Ae ?_|refine NIdx.tab (fun _=>rfl) hx ?_|refine NIdx.tab (fun _=>rfl) hy ?_|refine Aa hB Hb ?_|(with_reducible refine NInt.i64 ?_)|refine zF ?_));(all_goals(conv=>whnf))
   refine⟨i+1,⟨by omega,by omega,Tx ht hx (hq▸hy)⟩,by omega,?_⟩
   exact leQ
  ·rw[decide_eq_false hq] at hB
   rw[decide_eq_false (oV hx hy hq)]
   (repeat'((conv=>whnf);first|refine zP ?_|refine Ac ?_|refine NIdx.tab (fun _=>rfl) hx ?_|refine NIdx.tab (fun _=>rfl) hy ?_|refine Aa hB Hb ?_|refine zF ?_|exact zE))
 ·by_cases he:a.length=b.length
  ·have:=bB ht hik hi hj he
   subst this
   have g1:decide ((i:Int)<a.length)=false:=decide_eq_false (by omega)
   rw[decide_eq_true rfl]
   (repeat'((conv=>whnf);first|refine zN ?_|refine Ae ?_));(all_goals(conv=>whnf))
   all_goals(refine A7 ?_;(repeat'(first|refine And.intro ?_ ?_|exact rfl));(all_goals(conv=>whnf)))
   all_goals simp
  ·rw[decide_eq_false (fun e=>he (by rw[e]))]
   have g3:((a.length:Int)==b.length)=false:=by rw[beq_eq_false_iff_ne];omega
   by_cases k1:i<a.length
   ·have g1:decide ((i:Int)<a.length)=true:=decide_eq_true (by omega)
    have g2:decide ((i:Int)<b.length)=false:=decide_eq_false (by omega)
    (repeat'((conv=>whnf);first|refine zP ?_|refine zN ?_|refine Ac ?_));(all_goals(conv=>whnf))
    all_goals(refine A7 ?_;(repeat'(first|refine And.intro ?_ ?_|exact rfl));(all_goals(conv=>whnf)))
    all_goals exact g3
   ·have g1:decide ((i:Int)<a.length)=false:=decide_eq_false (by omega)
    (repeat'((conv=>whnf);first|refine zN ?_|refine Ae ?_));(all_goals(conv=>whnf))
    all_goals(refine A7 ?_;(repeat'(first|refine And.intro ?_ ?_|exact rfl));(all_goals(conv=>whnf)))
    all_goals exact g3
theorem BS (a b:List (List Att)) (ha:a.length≤1000000∧∀p∈a,BR p) (hb:b.length≤1000000∧∀p∈b,BR p):Ab Tryz.prog 98 [.d (Hi a),.d (Hi b)] (fun r=>r=bv (decide (a=b))):=by
 obtain⟨ha,hpa⟩:=ha
 obtain⟨hb,hpb⟩:=hb
 refine acQ 33 Tryz.func98 rfl rfl fun _ _ _=> ?_
 (all_goals(conv=>whnf))
 refine Ax (fun i:Nat=>i≤a.length∧i≤b.length∧a.take i=b.take i) (fun i=>a.length-i) (fun i=>⟨[(0,.d (Hi a)),(1,.d (Hi b)),(5,iv i)],[],[]⟩) 0 ⟨by omega,by omega,rfl⟩ leQ ?_
 rintro i ⟨hi,hj,ht⟩
 by_cases hik:i<a.length∧i<b.length
 ·obtain⟨k1,k2⟩:=hik
  have g1:decide ((i:Int)<a.length)=true:=decide_eq_true (by omega)
  have g2:decide ((i:Int)<b.length)=true:=decide_eq_true (by omega)
  obtain⟨x,hx⟩:∃p,a[i]?=some p:=⟨_,Am k1⟩
  obtain⟨y,hy⟩:∃p,b[i]?=some p:=⟨_,Am k2⟩
  have hB:=pL x y (hpa x (A8 hx)) (hpb y (A8 hy))
  by_cases hq:x=y
  ·rw[decide_eq_true hq] at hB
   (repeat'((conv=>whnf);first|refine zP ?_|refine Ac ?_|refine Ae ?_|refine NIdx.tab (fun _=>rfl) hx ?_|refine NIdx.tab (fun _=>rfl) hy ?_|refine Aa hB Hb ?_|(with_reducible refine NInt.i64 ?_)|refine zF ?_));(all_goals(conv=>whnf))
   refine⟨i+1,⟨by omega,by omega,Tx ht hx (hq▸hy)⟩,by omega,?_⟩
   exact leQ
  ·rw[decide_eq_false hq] at hB
   rw[decide_eq_false (oV hx hy hq)]
   (repeat'((conv=>whnf);first|refine zP ?_|refine Ac ?_|refine NIdx.tab (fun _=>rfl) hx ?_|refine NIdx.tab (fun _=>rfl) hy ?_|refine Aa hB Hb ?_|refine zF ?_|exact zE))
 ·by_cases he:a.length=b.length
  ·have:=bB ht hik hi hj he
   subst this
   have g1:decide ((i:Int)<a.length)=false:=decide_eq_false (by omega)
   rw[decide_eq_true rfl]
   (repeat'((conv=>whnf);first|refine zN ?_|refine Ae ?_));(all_goals(conv=>whnf))
   all_goals(refine A7 ?_;(repeat'(first|refine And.intro ?_ ?_|exact rfl));(all_goals(conv=>whnf)))
   all_goals simp
  ·rw[decide_eq_false (fun e=>he (by rw[e]))]
   have g3:((a.length:Int)==b.length)=false:=by rw[beq_eq_false_iff_ne];omega
   by_cases k1:i<a.length
   ·have g1:decide ((i:Int)<a.length)=true:=decide_eq_true (by omega)
    have g2:decide ((i:Int)<b.length)=false:=decide_eq_false (by omega)
    (repeat'((conv=>whnf);first|refine zP ?_|refine zN ?_|refine Ac ?_));(all_goals(conv=>whnf))
    all_goals(refine A7 ?_;(repeat'(first|refine And.intro ?_ ?_|exact rfl));(all_goals(conv=>whnf)))
    all_goals exact g3
   ·have g1:decide ((i:Int)<a.length)=false:=decide_eq_false (by omega)
    (repeat'((conv=>whnf);first|refine zN ?_|refine Ae ?_));(all_goals(conv=>whnf))
    all_goals(refine A7 ?_;(repeat'(first|refine And.intro ?_ ?_|exact rfl));(all_goals(conv=>whnf)))
    all_goals exact g3
theorem D1 (a b:Gn) (ha:a.eqs) (hb:b.eqs):Ab Tryz.prog 63 [gnA a,gnA b] (fun r=>r=bv (decide (a=b))):=by
 have hB:=Cw false false a.by' b.by' ha.b hb.b
 have hN:=BS a.nm b.nm ha.n hb.n
 rw[PO]
 generalize decide (a.nm=b.nm)=en at hN⊢
 obtain⟨k,o,t,b1,n,ak,av,pk,pv⟩:=a;obtain⟨k',o',t',b1',n',ak',av',pk',pv'⟩:=b
 simp only at hB hN⊢
 cases h1:(k==k')
 ·rw[Bool.false_and]
  refine acQ 52 Tryz.func63 rfl rfl fun _ _ _=> ?_
  (repeat'((conv=>whnf);first|refine zN ?_|refine Ae ?_|exact zE))
 rw[Bool.true_and]
 cases h2:(o==o')
 ·rw[Bool.false_and]
  refine acQ 52 Tryz.func63 rfl rfl fun _ _ _=> ?_
  (repeat'((conv=>whnf);first|refine zP ?_|refine zN ?_|refine Ac ?_|refine Ae ?_|exact zE))
 rw[Bool.true_and]
 cases h3:(t==t')
 ·rw[Bool.false_and]
  refine acQ 52 Tryz.func63 rfl rfl fun _ _ _=> ?_
  (repeat'((conv=>whnf);first|refine zP ?_|refine zN ?_|refine Ac ?_|refine Ae ?_|exact zE))
 rw[Bool.true_and]
 cases h4:(b1==b1')
 ·rw[h4] at hB
  rw[Bool.false_and]
  refine acQ 52 Tryz.func63 rfl rfl fun _ _ _=> ?_
  (repeat'((conv=>whnf);first|refine zP ?_|refine Ac ?_|refine Ae ?_|refine Aa hB Hb ?_|exact zE))
 rw[h4] at hB
 rw[Bool.true_and]
 cases en with
 |false=>
  rw[Bool.false_and]
  refine acQ 52 Tryz.func63 rfl rfl fun _ _ _=> ?_
  (repeat'((conv=>whnf);first|refine zP ?_|refine Ac ?_|refine Ae ?_|refine Aa hB Hb ?_|refine Aa hN Hb ?_|exact zE))
 |true=>
  rw[Bool.true_and]
  cases h6:(ak==ak'&&av==av')
  ·rw[Bool.false_and]
   refine acQ 52 Tryz.func63 rfl rfl fun _ _ _=> ?_
   (repeat'((conv=>whnf);first|refine zP ?_|refine zN ?_|refine Ac ?_|refine Ae ?_|refine Aa hB Hb ?_|refine Aa hN Hb ?_|refine Aj (Eb rfl rfl (ltN rfl) rfl rfl) ?_|exact zE))
  ·rw[Bool.true_and]
   refine acQ 52 Tryz.func63 rfl rfl fun _ _ _=> ?_
   (repeat'((conv=>whnf);first|refine zP ?_|refine Ac ?_|refine Aa hB Hb ?_|refine Aa hN Hb ?_|refine Aj (Eb rfl rfl (ltN rfl) rfl rfl) ?_|exact zE))
theorem Q4 (a b:List Gn) (ha:a.length≤1000000∧∀p∈a,p.eqs) (hb:b.length≤1000000∧∀p∈b,p.eqs):Ab Tryz.prog 31 [.d (Gy a),.d (Gy b)] (fun r=>r=bv (decide (a=b))):=by
 obtain⟨ha,hpa⟩:=ha
 obtain⟨hb,hpb⟩:=hb
 refine acQ 33 Tryz.func31 rfl rfl fun _ _ _=> ?_
 (all_goals(conv=>whnf))
 refine Ax (fun i:Nat=>i≤a.length∧i≤b.length∧a.take i=b.take i) (fun i=>a.length-i) (fun i=>⟨[(0,.d (Gy a)),(1,.d (Gy b)),(5,iv i)],[],[]⟩) 0 ⟨by omega,by omega,rfl⟩ leQ ?_
 rintro i ⟨hi,hj,ht⟩
 by_cases hik:i<a.length∧i<b.length
 ·obtain⟨k1,k2⟩:=hik
  have g1:decide ((i:Int)<a.length)=true:=decide_eq_true (by omega)
  have g2:decide ((i:Int)<b.length)=true:=decide_eq_true (by omega)
  obtain⟨x,hx⟩:∃p,a[i]?=some p:=⟨_,Am k1⟩
  obtain⟨y,hy⟩:∃p,b[i]?=some p:=⟨_,Am k2⟩
  have hB:=D1 x y (hpa x (A8 hx)) (hpb y (A8 hy))
  by_cases hq:x=y
  ·rw[decide_eq_true hq] at hB
   (repeat'((conv=>whnf);first|refine zP ?_|refine Ac ?_|refine Ae ?_|refine NIdx.tab (fun _=>rfl) hx ?_|refine NIdx.tab (fun _=>rfl) hy ?_|refine Aa hB Hb ?_|(with_reducible refine NInt.i64 ?_)|refine zF ?_));(all_goals(conv=>whnf))
   refine⟨i+1,⟨by omega,by omega,Tx ht hx (hq▸hy)⟩,by omega,?_⟩
   exact leQ
  ·rw[decide_eq_false hq] at hB
   rw[decide_eq_false (oV hx hy hq)]
   (repeat'((conv=>whnf);first|refine zP ?_|refine Ac ?_|refine NIdx.tab (fun _=>rfl) hx ?_|refine NIdx.tab (fun _=>rfl) hy ?_|refine Aa hB Hb ?_|refine zF ?_|exact zE))
 ·by_cases he:a.length=b.length
  ·have:=bB ht hik hi hj he
   subst this
   have g1:decide ((i:Int)<a.length)=false:=decide_eq_false (by omega)
   rw[decide_eq_true rfl]
   (repeat'((conv=>whnf);first|refine zN ?_|refine Ae ?_));(all_goals(conv=>whnf))
   all_goals(refine A7 ?_;(repeat'(first|refine And.intro ?_ ?_|exact rfl));(all_goals(conv=>whnf)))
   all_goals simp
  ·rw[decide_eq_false (fun e=>he (by rw[e]))]
   have g3:((a.length:Int)==b.length)=false:=by rw[beq_eq_false_iff_ne];omega
   by_cases k1:i<a.length
   ·have g1:decide ((i:Int)<a.length)=true:=decide_eq_true (by omega)
    have g2:decide ((i:Int)<b.length)=false:=decide_eq_false (by omega)
    (repeat'((conv=>whnf);first|refine zP ?_|refine zN ?_|refine Ac ?_));(all_goals(conv=>whnf))
    all_goals(refine A7 ?_;(repeat'(first|refine And.intro ?_ ?_|exact rfl));(all_goals(conv=>whnf)))
    all_goals exact g3
   ·have g1:decide ((i:Int)<a.length)=false:=decide_eq_false (by omega)
    (repeat'((conv=>whnf);first|refine zN ?_|refine Ae ?_));(all_goals(conv=>whnf))
    all_goals(refine A7 ?_;(repeat'(first|refine And.intro ?_ ?_|exact rfl));(all_goals(conv=>whnf)))
    all_goals exact g3
def Tr.isB (c n:Nat) (k:Bool):Tr→Bool
 | .mk c' n' k' _ _=>c'==c&&k'==k&&n'==n
theorem IE (t:Tr) (c n:Nat) (k:Bool):Ab Tryz.prog 123 [trF t,iv c,bv k,iv n] (fun r=>r=bv (t.isB c n k)):=by
 obtain⟨c',n',k',b,ks⟩:=t
 rw[Bv]
 refine acQ 25 Tryz.func123 rfl rfl fun _ _ _=> ?_
 (repeat'((conv=>whnf);first|refine Ac ?_|refine Ae ?_|(refine NBr.mk (fun hc=> ?_) (fun hc=> ?_)<;>(have hcP:=hc;(try simp only[zS] at hcP)<;>first|(exfalso;omega)|skip))));(all_goals(conv=>whnf))
 all_goals(refine Cg rfl (?_:_=_);try simp only[AV.dat])
 all_goals
  simp only[Ga] at*
  simp only[Tr.isB, *]
  first|rfl|(simp;done)
def okT (d:Nat) (p:List UInt8) (t:Tr):Prop:=One d p∧trD d p=t
theorem okT.up {d e:Nat} {p:List UInt8} {t:Tr} (h:okT d p t) (hd:d≤e):okT e p t:=by
 obtain⟨h1,h2⟩:=h.1.mono hd
 exact⟨h1,h2.trans h.2⟩
theorem okT.of {d:Nat} {p:List UInt8} (h:One d p):okT d p (trD d p):=⟨h,rfl⟩
theorem okT.prim (d:Nat) {c n:Nat} (l:List UInt8) (hc:c≤3) (hn:n≤30) (hl:l.length≤2147483600):okT (d+1) (Ah c n false l) (.mk c n false l []):=Wc l hc hn hl
theorem okT.con1 {d c n:Nat} {p:List UInt8} {t:Tr} (hc:c≤3) (hn:n≤30) (h:okT d p t) (hl:p.length≤2000000000):okT (d+1) (Ah c n true p) (.mk c n true [] [t]):=by
 have:=BI hc hn h.1 hl
 rw[h.2] at this;exact this
theorem okT.con2 {d c n:Nat} {p q:List UInt8} {t u:Tr} (hc:c≤3) (hn:n≤30) (h1:okT d p t) (h2:okT d q u) (hl:p.length+q.length≤2000000000):okT (d+1) (Ah c n true (p++q)) (.mk c n true [] [t,u]):=by
 have:=gP hc hn h1.1 h2.1 hl
 rw[h1.2,h2.2] at this;exact this
theorem Zc (n:Nat):1≤(Fm n).length:=by
 unfold Fm
 split
 ·rename_i h;rw[C4 (by omega)];simp
 ·simp
theorem uP {p:List UInt8} {c n:Nat} (h:Er (Ah c n true p)=true) (hc:c≤3) (hn:n≤30) (hl:p.length≤2147483600):∃ks,okT 16 (Ah c n true p) (.mk c n true [] ks)∧Tr.encs ks=p:=by
 have ho:=M5 h
 obtain⟨e1,e2⟩:=ho.enc
 have hsh:=BH (t:=trD 16 (Ah c n true p)) ho
 generalize ht:trD 16 (Ah c n true p)=t at e1 e2 hsh
 obtain⟨c',n',k',v,ks⟩:=t
 rw[Tr.ok] at e1
 rw[Tr.enc] at e2
 have hlen:(v++Tr.encs ks).length≤2147483647:=by
  have:=congrArg List.length e2
  unfold Ah at this
  rw[E0,E0] at this
  have h1:=I9 p.length (by omega)
  have h2:1≤(Fm (v++Tr.encs ks).length).length:=Zc _
  omega
 have hj:=Tv.inj (t:=⟨c',n',k',v++Tr.encs ks⟩) (u:=⟨c,n,true,p⟩) (r:=[]) (s:=[]) ⟨e1.1,e1.2.1,hlen⟩ ⟨hc,hn,by show p.length≤_;omega⟩ (by rw[List.append_nil,List.append_nil];exact e2)
 have h2:=hj.1
 simp only[Tv.mk.injEq] at h2
 obtain⟨rfl,rfl,rfl,h3⟩:=h2
 have hv:v=[]:=hsh rfl
 subst hv
 exact⟨ks,⟨ho,ht⟩,h3⟩
theorem BT {g:Gn} (h:gnW g=true) (hs:g.mid):∃t:Tr,okT 20 (gnE g) t∧Bg t=g∧t.c=2∧(t.n:Int)=g.k∧t.k=D0 g.k:=by
 obtain⟨ha,hf,⟨c,hc⟩,hp⟩:=(N8 g).1 h
 obtain⟨n,hn,hk⟩:=Pn hc
 have hl:=hs.c
 rw[hc] at hl
 have hl:c.length≤700000:=hl
 have e:gnE g=Ah 2 n (D0 n) c:=by unfold gnE;rw[hc,hk];rfl
 have hr:=pI hk ha hc hp hs.s
 rw[e]
 obtain⟨k,oid,tx,by',nm,ak,av,pk,pv⟩:=g
 have hsm:=hs.s
 obtain⟨s1,s2,s3,s4,s5,s6⟩:=hsm
 simp only at hk s1 s2 s3 s4 s5 s6
 subst hk
 rcases(by omega:n=0∨n=1∨n=2∨n=3∨n=4∨n=5∨n=6∨n=7∨n=8) with rfl|rfl|rfl|rfl|rfl|rfl|rfl|rfl|rfl
 ·
  obtain⟨o',b',e1,e2,e3⟩:=pF (c:=c) (by omega) (by show(rdP 0 c).2=true;rw[hr])
  have e1:rdP 0 c=_:=e1
  rw[hr] at e1
  simp only[Prod.mk.injEq,Gn.mk.injEq,and_true] at e1
  obtain⟨-,rfl,rfl,rfl,rfl,rfl,rfl,rfl,rfl⟩:=e1
  have k1:=Fd oid
  have k2:=As 0 6 false (Bq oid) (by omega)
  have k3:=As 2 0 true by' (by omega)
  have ho:Er by'=true:=hf
  have q1:=okT.prim 16 (c:=0) (n:=6) (Bq oid) (by omega) (by omega) (by omega)
  have q2:=okT.con1 (c:=2) (n:=0) (by omega) (by omega) (okT.of (M5 ho)) (by omega)
  have q3:=okT.con2 (c:=2) (n:=0) (by omega) (by omega) q1 q2 (by omega)
  rw[e3]
  refine⟨_,q3.up (by omega),?_,rfl,rfl,rfl⟩
  show(⟨0,odT (Bq oid),[],Tr.encs [trD 16 by'],[],0,[],0,[]⟩:Gn)=_
  rw[(Vi e2).1]
  have:Tr.encs [trD 16 by']=by':=by rw[Tr.encs,Tr.encs,List.append_nil,(M5 ho).enc.2]
  rw[this];rfl
 ·have q:=okT.prim 19 (c:=2) (n:=1) c (by omega) (by omega) (by omega)
  refine⟨_,q,?_,rfl,rfl,rfl⟩
  exact congrArg Prod.fst hr
 ·have q:=okT.prim 19 (c:=2) (n:=2) c (by omega) (by omega) (by omega)
  refine⟨_,q,?_,rfl,rfl,rfl⟩
  exact congrArg Prod.fst hr
 ·have hr':((⟨3,[],[],c,[],0,[],0,[]⟩:Gn),true)=_:=hr
  simp only[Prod.mk.injEq,Gn.mk.injEq,and_true] at hr'
  obtain⟨-,rfl,rfl,rfl,rfl,rfl,rfl,rfl,rfl⟩:=hr'
  have ho:Er (Ah 2 3 true c)=true:=hf
  obtain⟨ks,q1,q2⟩:=uP ho (by omega) (by omega) (by omega)
  refine⟨_,q1.up (by omega),?_,rfl,rfl,rfl⟩
  show(⟨3,[],[],Tr.encs ks,[],0,[],0,[]⟩:Gn)=_
  rw[q2];rfl
 ·have hcc:(if nmV nm=true then some (nmE nm) else none)=some c:=hc
  by_cases hv:nmV nm=true
  ·rw[if_pos hv] at hcc
   obtain rfl:=Option.some.inj hcc
   obtain⟨a1,a2⟩:=MI hv s4
   have q:=okT.con1 (c:=2) (n:=4) (by omega) (by omega) (okT.of a1) (by omega)
   refine⟨_,q,?_,rfl,rfl,rfl⟩
   rw[D5] at ha
   obtain⟨b1,b2,b3,b4,b5⟩:=ha
   obtain rfl:oid=[]:=by simpa using b1
   obtain rfl:tx=[]:=by simpa using b2
   obtain rfl:by'=[]:=by simpa using b3
   obtain⟨⟨rfl,rfl⟩,rfl,rfl⟩:(ak=0∧av=[])∧pk=0∧pv=[]:=by simpa using b5
   show(⟨4,[],[],[],Na (trD 19 (nmE nm)),0,[],0,[]⟩:Gn)=_
   rw[a2];rfl
  ·rw[if_neg hv] at hcc;cases hcc
 ·rw[D5] at ha
  obtain⟨b1,b2,b3,b4,b5⟩:=ha
  obtain rfl:oid=[]:=by simpa using b1
  obtain rfl:tx=[]:=by simpa using b2
  obtain rfl:by'=[]:=by simpa using b3
  obtain rfl:nm=[]:=by simpa using b4
  have hcc:M8 ⟨5,[],[],[],[],ak,av,pk,pv⟩=some c:=hc
  have hpp:((zT ak av||fiB ak av)&&fiB pk pv)=true:=hp
  rw[At] at hpp
  have v2:=Ld hpp.2
  have l2:=Gg v2 s6
  obtain⟨p1,p2,p3⟩:=BJ v2 s6
  have w2:=okT.con1 (c:=2) (n:=1) (by omega) (by omega) (okT.of p1) (by omega)
  have x2:=As 2 1 true (txE pk pv) (by omega)
  unfold M8 at hcc
  simp only at hcc
  cases hz:zT ak av
  ·rw[hz,Bool.false_or] at hpp
   have v1:=Ld hpp.1
   have l1:=Gg v1 s5
   obtain⟨a1,a2,a3⟩:=BJ v1 s5
   have w1:=okT.con1 (c:=2) (n:=0) (by omega) (by omega) (okT.of a1) (by omega)
   have x1:=As 2 0 true (txE ak av) (by omega)
   rw[hz,v1,v2] at hcc
   have hcc:some (Ah 2 0 true (txE ak av)++Ah 2 1 true (txE pk pv))=some c:=hcc
   obtain rfl:=Option.some.inj hcc
   have q:=okT.con2 (c:=2) (n:=5) (by omega) (by omega) w1 w2 (by omega)
   refine⟨_,q.up (by omega),?_,rfl,rfl,rfl⟩
   show(⟨5,[],[],[],[],Oj (trD 1 (txE ak av)),Ok (trD 1 (txE ak av)),Oj (trD 1 (txE pk pv)),Ok (trD 1 (txE pk pv))⟩:Gn)=_
   rw[a2,a3,p2,p3];rfl
  ·obtain⟨rfl,rfl⟩:=R6.1 hz
   rw[hz,v2] at hcc
   have hcc:some (Ah 2 1 true (txE pk pv))=some c:=hcc
   obtain rfl:=Option.some.inj hcc
   have q:=okT.con1 (c:=2) (n:=5) (by omega) (by omega) w2 (by omega)
   refine⟨_,q.up (by omega),?_,rfl,rfl,rfl⟩
   show(⟨5,[],[],[],[],0,[],Oj (trD 1 (txE pk pv)),Ok (trD 1 (txE pk pv))⟩:Gn)=_
   rw[p2,p3];rfl
 ·have q:=okT.prim 19 (c:=2) (n:=6) c (by omega) (by omega) (by omega)
  refine⟨_,q,?_,rfl,rfl,rfl⟩
  exact congrArg Prod.fst hr
 ·have q:=okT.prim 19 (c:=2) (n:=7) c (by omega) (by omega) (by omega)
  refine⟨_,q,?_,rfl,rfl,rfl⟩
  exact congrArg Prod.fst hr
 ·have q:=okT.prim 19 (c:=2) (n:=8) c (by omega) (by omega) (by omega)
  refine⟨_,q,?_,rfl,rfl,rfl⟩
  exact congrArg Prod.fst hr
theorem gT {d:Nat} {p:List UInt8} {t:Tr} (h:okT d p t) (hd:d≤60):Bt p=t:=by
 have h':=h.up hd
 have h1:rT 60 p=⟨[trD 60 p],p.length,0,0⟩:=h'.1
 unfold Bt Db
 rw[h1,N3 (by omega)]
 exact h'.2
end Go.Proofs.YtokmjjkbginodaaGreatDoor
