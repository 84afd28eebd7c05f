/- MR: the texts GenZ R11 R12 EqG T4 GenZ2, one behind the other. No condition but what each lemma says. -/
import Derived.Test.YtgmbmfoabndmoaaGreatDoorMP
import Derived.Test.YtgmbmfoabndmoaaGreatDoorMI
import Derived.Test.YtgmbmfoabndmoaaGreatDoorMQ
import Derived.Test.YtgmbmfoabndmoaaGreatDoorMM
import Derived.Test.YtgmbmfoabndmoaaGreatDoorME
set_option maxRecDepth 100000
set_option maxHeartbeats 16000000
namespace Go.Proofs.YtgmbmfoabndmoaaGreatDoor
open Go.RowKit
def Tr.c:Tr→Nat
 | .mk c _ _ _ _=>c
def Tr.k:Tr→Bool
 | .mk _ _ k _ _=>k
def Zh (t:Tr) (i:Nat):List UInt8:=match t.ks[i]? with
 |some k=>k.enc
 |none=>[]
def Pk (t:Tr):Att:=⟨odT (t.kid 0).v,Zh t 1⟩
def F2 (t:Tr):List Att:=t.ks.map Pk
def Lx (t:Tr):List (List Att):=t.ks.map F2
def isT (t:Tr) (c n:Nat) (k:Bool):Bool:=t.c==c&&(t.k==k&&t.n==n)
def M2 (t:Tr):Int:=Ed t.n t.v
def M3 (t:Tr):List UInt8:=Bs t.n t.v
def Ax (t:Tr):Gn:=match t.n with
 |0=>⟨0,odT (t.kid 0).v,[],Tr.encs (t.kid 1).ks,[],0,[],0,[]⟩
 |1=>⟨1,[],Bs 22 t.v,[],[],0,[],0,[]⟩
 |2=>⟨2,[],Bs 22 t.v,[],[],0,[],0,[]⟩
 |3=>⟨3,[],[],Tr.encs t.ks,[],0,[],0,[]⟩
 |4=>⟨4,[],[],[],Lx (t.kid 0),0,[],0,[]⟩
 |5=>if isT (t.kid 0) 2 0 true then⟨5,[],[],[],[],M2 ((t.kid 0).kid 0),M3 ((t.kid 0).kid 0),M2 ((t.kid 1).kid 0),M3 ((t.kid 1).kid 0)⟩ else⟨5,[],[],[],[],0,[],M2 ((t.kid 0).kid 0),M3 ((t.kid 0).kid 0)⟩
 |6=>⟨6,[],Bs 22 t.v,[],[],0,[],0,[]⟩
 |7=>⟨7,[],[],t.v,[],0,[],0,[]⟩
 |8=>⟨8,odT t.v,[],[],[],0,[],0,[]⟩
 |n=>⟨n,[],[],[],[],0,[],0,[]⟩
theorem vV {d:Nat} {l:List UInt8} {t:Tr} {sz:Nat} (h:rT d l=⟨[t],sz,0,0⟩):t.k=true→t.v=[]:=by
 cases d with
 |zero=>simp[rT,TR.bad] at h
 |succ d=>
  rw[rT] at h
  unfold rTH at h
  split at h
  ·simp[TR.bad] at h
  ·split at h
   ·simp[TR.bad] at h
   ·split at h
    ·simp only[TR.mk.injEq,List.cons.injEq,and_true] at h
     obtain⟨rfl,-⟩:=h
     intro hk;cases hk
    ·split at h
     ·simp[TR.bad] at h
     ·simp only[TR.mk.injEq,List.cons.injEq,and_true] at h
      obtain⟨rfl,-⟩:=h
      intro _;rfl
theorem cZ {d c n:Nat} {p:List UInt8} (hc:c≤3) (hn:n≤30) (h:One d p) (hl:p.length≤2000000000):One (d+1) (Ae c n true p)∧trD (d+1) (Ae c n true p)= .mk c n true [] [trD d p]:=by
 have:=Mr (d:=d) [p] hc hn (fun q hq=>by rw[List.mem_singleton.1 hq];exact⟨h,by omega⟩) (by simp;omega)
 simpa using this
theorem dA {d c n:Nat} {p q:List UInt8} (hc:c≤3) (hn:n≤30) (h1:One d p) (h2:One d q) (hl:p.length+q.length≤2000000000):One (d+1) (Ae c n true (p++q))∧trD (d+1) (Ae c n true (p++q))= .mk c n true [] [trD d p,trD d q]:=by
 have:=Mr (d:=d) [p,q] hc hn (fun x hx=>by
  rcases List.mem_cons.1 hx with rfl|hx
  ·exact⟨h1,by omega⟩
  ·rw[List.mem_singleton.1 hx];exact⟨h2,by omega⟩) (by simp;omega)
 simpa using this
theorem vW {a:Att} (h:atV a=true) (hs:a.sm):One 17 (atE a)∧Pk (trD 17 (atE a))=a:=by
 obtain⟨h1,h2⟩:=R9 h
 have k1:=D5 a.oid
 have o1:=hs.o
 have o2:=hs.v
 have k2:=Al 0 6 false (Au a.oid) (by omega)
 obtain⟨b1,b2⟩:=Up (d:=15) (c:=0) (n:=6) (Au a.oid) (by omega) (by omega) (by omega)
 have hv:=Ls h2
 obtain⟨c1,c2⟩:=dA (d:=16) (c:=0) (n:=16) (by omega) (by omega) b1 hv (by omega)
 refine⟨c1,?_⟩
 have e:trD 17 (atE a)= .mk 0 16 true [] [trD 16 (Ae 0 6 false (Au a.oid)),trD 16 a.val]:=c2
 rw[e]
 show(⟨odT (trD 16 (Ae 0 6 false (Au a.oid))).v,(trD 16 a.val).enc⟩:Att)=a
 rw[b2,hv.enc.2]
 show(⟨odT (Au a.oid),a.val⟩:Att)=a
 rw[(Tz h1).1]
theorem lI {r:List Att} (h:E0 r=true) (hz:rdnZ r):One 18 (Bw r)∧F2 (trD 18 (Bw r))=r:=by
 obtain⟨h0,h1,h2⟩:=Sa h
 obtain⟨hl,hs,hq⟩:=hz
 obtain⟨c1,c2⟩:=Mr (d:=17) (c:=0) (n:=17) (r.map atE) (by omega) (by omega) (fun p hp=>by
  obtain⟨a,ha,rfl⟩:=List.mem_map.1 hp
  have:=Y6 (hs a ha)
  have:=(hs a ha).o
  have:=(hs a ha).v
  exact⟨(vW (List.all_eq_true.1 h1 a ha) (hs a ha)).1,by omega⟩) (by omega)
 refine⟨c1,?_⟩
 have e:trD 18 (Bw r)= .mk 0 17 true [] ((r.map atE).map (trD 17)):=c2
 rw[e]
 show((r.map atE).map (trD 17)).map Pk=r
 rw[List.map_map,List.map_map]
 conv=>rhs;rw[←List.map_id r]
 exact List.map_congr_left fun a ha=>(vW (List.all_eq_true.1 h1 a ha) (hs a ha)).2
theorem EM {n:List (List Att)} (h:nmV n=true) (hs:nmZ n):One 19 (nmE n)∧Lx (trD 19 (nmE n))=n:=by
 have he:=hs.e
 obtain⟨c1,c2⟩:=Mr (d:=18) (c:=0) (n:=16) (n.map Bw) (by omega) (by omega) (fun p hp=>by
  obtain⟨r,hr,rfl⟩:=List.mem_map.1 hp
  have:=uX (hs.r r hr)
  have:=(hs.r r hr).e
  exact⟨(lI (List.all_eq_true.1 h r hr) (hs.r r hr)).1,by omega⟩) (by omega)
 refine⟨c1,?_⟩
 have e:trD 19 (nmE n)= .mk 0 16 true [] ((n.map Bw).map (trD 18)):=c2
 rw[e]
 show((n.map Bw).map (trD 18)).map F2=n
 rw[List.map_map,List.map_map]
 conv=>rhs;rw[←List.map_id n]
 exact List.map_congr_left fun r hr=>(lI (List.all_eq_true.1 h r hr) (hs.r r hr)).2
theorem vX {k:Int} {l:List UInt8} (h:Af k l=true) (hl:l.length≤3000000):One 1 (txE k l)∧M2 (trD 1 (txE k l))=k∧M3 (trD 1 (txE k l))=l:=by
 obtain⟨n,h1,h2,rfl⟩:=Pf h
 have h4:=Fk h
 obtain⟨b1,b2⟩:=Up (d:=0) (c:=0) (n:=n) (chS (n:Int) l) (by omega) h2 (by omega)
 have e:txE (n:Int) l=Ae 0 n false (chS (n:Int) l):=by unfold txE;rw[Int.toNat_natCast]
 rw[e]
 obtain⟨c1,c2,-⟩:=Qi h
 refine⟨b1,?_,?_⟩
 ·rw[b2];exact c1
 ·rw[b2];exact c2
theorem I0 {p:Prop} (h:p:=by first|rfl|(simp only[AV.gives,AV.ren,AV.give,D.un,D.uns,Ah,Ai,List.nil_append,List.append_nil,List.cons_append,Am,Av,Ji,Ce,Br,Wz,Tr.cellss_un,A1,As,Bx];first|done|rfl)):p:=h
theorem dB (a:Att) (ho:a.oid.length≤3500000) (hv:a.val.length≤1000000000):Aa Tryz.prog 146 [atA a] (fun r=>r=bv (atV a)):=by
 have hV:=Iy a.oid ho
 have hO:=N2 a.val hv
 unfold atV
 cases h:Dz a.oid
 ·rw[h] at hV
  refine acQ 11 Tryz.func146 rfl rfl fun _ _ _=> ?_
  (repeat'((conv=>whnf);first|refine NBr.no ?_|refine NCall.eq hV rfl ?_));(all_goals(conv=>whnf))
  all_goals exact NEnd.eq leQ
 ·rw[h] at hV
  rw[Bool.true_and]
  refine acQ 11 Tryz.func146 rfl rfl fun _ _ _=> ?_
  (repeat'((conv=>whnf);first|refine NBr.yes ?_|refine NCall.eq hV rfl ?_|refine NCall.eq hO I0 ?_));(all_goals(conv=>whnf))
  all_goals exact NEnd.eq leQ
theorem vY (a:Att) (ho:a.oid.length≤3500000) (hv:a.val.length≤100000000):Aa Tryz.prog 172 [atA a] (fun r=>r=if atV a=true then .tup [Aq 0 5 (atE a),iv 0] else .tup [Ao,iv 8]):=by
 have hV:=dB a ho (by omega)
 cases h:atV a
 ·rw[if_neg (by simp)]
  rw[h] at hV
  refine acQ 14 Tryz.func172 rfl rfl fun _ _ _=> ?_
  (repeat'((conv=>whnf);first|refine NBr.yes ?_|refine NCall.eq hV I0 ?_));(all_goals(conv=>whnf))
  all_goals exact NEnd.eq leQ
 ·rw[if_pos rfl]
  rw[h] at hV
  have hO:=Uo a.oid ho
  have k1:=D5 a.oid
  have k2:=Al 0 6 false (Au a.oid) (by omega)
  have hP:=Fi 48 [Qe a.oid,a.val] (by simp) (by simp[Qe];omega)
  rw[show Iu 48 [Qe a.oid,a.val].flatten=atE a by simp only[List.flatten_cons,List.flatten_nil,List.append_nil];rfl] at hP
  have hP:Aa Tryz.prog 25 [cv 48,.d (Cs [Qe a.oid,a.val])] (fun r=>r=Aq 0 5 (atE a)):=hP
  generalize Qe a.oid=ob at hO hP
  refine acQ 14 Tryz.func172 rfl rfl fun _ _ _=> ?_
  (repeat'((conv=>whnf);first|refine NBr.no ?_|refine NCall.eq hV I0 ?_|refine NCall.eq hO rfl ?_|refine NCall.eq hP I0 ?_|refine NFact.go ⟨by decide+kernel,by kernel_rfl⟩ ?_));(all_goals(conv=>whnf))
  all_goals exact NEnd.eq leQ
theorem vZ (t:Tr) (i:Nat) (hi:i≤1000000) (hk:∀k,t.ks[i]?=some k→k.ok∧k.enc.length≤900000000):Aa Tryz.prog 178 [trF t,iv i] (fun r=>r= .d (Ac true (Zh t i))):=by
 obtain⟨c,n,k,b,ks⟩:=t
 have g0:decide ((i:Int)<0)=false:=decide_eq_false (by omega)
 rw[Bm]
 unfold Zh
 simp only[Tr.ks] at hk⊢
 by_cases h:i<ks.length
 ·have g1:decide ((i:Int)≥ks.length)=false:=decide_eq_false (by omega)
  obtain⟨x,hx⟩:∃x,ks[i]?=some x:=⟨_,List.getElem?_eq_getElem h⟩
  obtain⟨h1,h2⟩:=hk x hx
  have hB:=N1 x h1 h2
  rw[hx]
  simp only
  generalize x.enc=e at hB
  obtain⟨c',n',k',b',ks'⟩:=x
  rw[Bm] at hB
  refine acQ 20 Tryz.func178 rfl rfl fun _ _ _=> ?_
  (repeat'((conv=>whnf);first|refine NBr.neg asQ ?_|refine NBr.no ?_|(refine NIdx.trs hx ?_)|refine NCall.eq hB I0 ?_));(all_goals(conv=>whnf))
  all_goals exact NEnd.eq leQ
 ·have g1:decide ((i:Int)≥ks.length)=true:=decide_eq_true (by omega)
  rw[List.getElem?_eq_none (by omega)]
  refine acQ 20 Tryz.func178 rfl rfl fun _ _ _=> ?_
  (repeat'((conv=>whnf);first|refine NBr.pos asQ ?_|refine NBr.neg asQ ?_|refine NBr.no ?_));(all_goals(conv=>whnf))
  all_goals exact NEnd.eq leQ
abbrev atQ (a:Att):AV:= .agg [.d (sD a.oid),.d (Ac true a.val)]
structure Tr.at (t:Tr):Prop where
 o:(t.kid 0).v.length≤30000
 v:∀k,t.ks[1]?=some k→k.ok∧k.enc.length≤900000000
theorem wA (t:Tr) (ht:t.at):Aa Tryz.prog 154 [trF t] (fun r=>r=atQ (Pk t)):=by
 have hK:=G5 t 0 (by omega)
 have hR:=Lr (t.kid 0) ht.o
 have hO:=vZ t 1 (by omega) ht.v
 unfold Pk
 generalize odT (t.kid 0).v=o at hR⊢
 generalize t.kid 0=k0 at hK hR
 generalize Zh t 1=e at hO⊢
 obtain⟨c,n,k,b,ks⟩:=t
 obtain⟨c',n',k',b',ks'⟩:=k0
 rw[Bm] at hK hR hO
 rw[Bm] at hK⊢
 refine acQ 9 Tryz.func154 rfl rfl fun _ _ _=> ?_
 (repeat'((conv=>whnf);first|refine NCall.eq hK I0 ?_|refine NCall.eq hR I0 ?_|refine NCall.eq hO I0 ?_|refine NFact.go ⟨by decide+kernel,by kernel_rfl⟩ ?_));(all_goals(conv=>whnf))
 all_goals exact NEnd.eq leQ
theorem wB (k:Int) (l:List UInt8) (hl:l.length≤16777216):Aa Tryz.prog 69 [txA k l] (fun r=>r=frS k l):=by
 have hE:=F1 k l hl
 unfold frS
 cases hv:Af k l
 ·rw[show Dl k l=[] by unfold Dl;rw[hv];rfl,show Gy k l=8 by unfold Gy;rw[hv];rfl] at hE
  rw[if_neg (by simp)]
  clear hv
  refine acQ 18 Tryz.func69 rfl rfl fun _ _ _=> ?_
  (repeat'((conv=>whnf);first|refine NBr.yes ?_|refine NCall.eq hE rfl ?_));(all_goals(conv=>whnf))
  all_goals exact NEnd.eq leQ
 ·rw[show Dl k l=chS k l by unfold Dl;rw[hv];rfl,show Gy k l=0 by unfold Gy;rw[hv];rfl] at hE
  have hW4:Ag k≤4:=by unfold Ag;(repeat' split)<;>omega
  have hch:(chS k l).length≤4*l.length:=by
   have:=Lw (f:=H4 (Ag k)) (m:=4) (fun x=>Ky _ x hW4) (rns l)
   rw[I4 hv] at this
   have:=Pj l (by unfold Af at hv;simp at hv;exact hv.1.1);omega
  have hk:¬Ag k<0:=by unfold Af at hv;simp at hv;omega
  rw[if_pos rfl]
  have hP:Aa Tryz.prog 45 [cv (UInt8.ofNat k.toNat).toNat,.d (Ac false (chS k l))] (fun r=>r=Aq 0 5 (txE k l)):=by
   have:=Cv (UInt8.ofNat k.toNat) (chS k l) (by omega)
   rw[show Iu (UInt8.ofNat k.toNat) (chS k l)=txE k l from ?_] at this
   ·exact this
   ·unfold txE Ae;rw[show idN ((0:Nat):Int) false (k.toNat:Int)=k.toNat by rw[uQ];simp]
  generalize chS k l=ch at hE hP
  generalize txE k l=e at hP⊢
  clear hv
  obtain⟨q,rfl⟩:∃q:Nat,k=q:=⟨k.toNat,by rcases Cn k hk with rfl|rfl|rfl|rfl|rfl|rfl|rfl<;>rfl⟩
  rw[Int.toNat_natCast] at hP
  refine acQ 18 Tryz.func69 rfl rfl fun _ _ _=> ?_
  (repeat'((conv=>whnf);first|refine NBr.no ?_|refine NCall.eq hE rfl ?_|(with_reducible refine NInt.octZ (q) ?_)|refine NCall.eq hP I0 ?_));(all_goals(conv=>whnf))
  all_goals exact NEnd.eq leQ
theorem dC (t:Tr) (hl:t.v.length≤1000000):Aa Tryz.prog 86 [trF t] (fun r=>r=txA (M2 t) (M3 t)):=by
 obtain⟨c,n,k,b,ks⟩:=t
 have hD:=G6 n b hl
 rw[Bm]
 refine acQ 14 Tryz.func86 rfl rfl fun _ _ _=> ?_
 (repeat'((conv=>whnf);refine NCall.eq hD I0 ?_));(all_goals(conv=>whnf))
 all_goals exact NEnd.eq leQ
theorem W8 (k:Int) (l:List UInt8) (hl:l.length≤16777216):Aa Tryz.prog 77 [txA k l] (fun r=>r=bv (fiB k l)):=by
 have hV:=Gv k l hl
 unfold fiB
 cases hv:Af k l
 ·rw[hv] at hV
  clear hv
  refine acQ 19 Tryz.func77 rfl rfl fun _ _ _=> ?_
  (repeat'((conv=>whnf);first|refine NBr.yes ?_|refine NCall.eq hV rfl ?_));(all_goals(conv=>whnf))
  all_goals exact NEnd.eq leQ
 ·have hk:¬Ag k<0:=by unfold Af at hv;simp at hv;omega
  rw[hv] at hV
  clear hv
  cases l with
  |nil=>
   refine acQ 19 Tryz.func77 rfl rfl fun _ _ _=> ?_
   (repeat'((conv=>whnf);first|refine NBr.yes ?_|refine NBr.no ?_|refine NCall.eq hV rfl ?_));(all_goals(conv=>whnf))
   all_goals exact NEnd.eq leQ
  |cons x r=>
   have g:(x::r==[])=false:=rfl
   rw[g]
   rcases Cn k hk with rfl|rfl|rfl|rfl|rfl|rfl|rfl
   all_goals
    refine acQ 19 Tryz.func77 rfl rfl fun _ _ _=> ?_
    (repeat'((conv=>whnf);first|refine NBr.neg asQ ?_|refine NBr.yes ?_|refine NBr.no ?_|refine NCall.eq hV rfl ?_));(all_goals(conv=>whnf))
    all_goals exact NEnd.eq leQ
theorem En {p:Prop} (h:p:=by first|rfl|(simp only[AV.gives,AV.ren,AV.give,D.un,D.uns,Ah,Ai,List.nil_append,List.append_nil,List.cons_append,Am,Av,Ji,Ce,Br,Wz,Tr.cellss_un,A1,As,Bx,Cz,By,kS,W4];first|done|rfl)):p:=h
theorem U6 (r:List Att) (hz:rdnZ r) (hv:r.all atV=true):Aa Tryz.prog 143 [.d (J7 r)] (fun x=>x= .d (uR (r.map atE))):=by
 obtain⟨hr,hs,he⟩:=hz
 refine acQ 26 Tryz.func143 rfl rfl fun _ _ _=> ?_
 (all_goals(conv=>whnf))
 refine NLoop.goA [.s 3 1 27] (fun i:Nat=>i≤r.length) (fun i=>r.length-i) (fun i=>⟨[(0,.d (J7 r)),(3,Ce 3 1 27 Dk ((r.take i).map atE)),(4,iv i)],[],[(3,(((r.take i).map atE).length,1,27))]⟩) 0 (by omega) leQ ?_
 rintro i hi
 have hml:((r.take i).map atE).length≤100000:=by rw[List.length_map,List.length_take];omega
 by_cases hik:i<r.length
 ·have gi:decide ((i:Int)<r.length)=true:=decide_eq_true (by omega)
  obtain⟨x,hg⟩:∃p,r[i]?=some p:=⟨_,List.getElem?_eq_getElem hik⟩
  have hx:=hs x (List.mem_of_getElem? hg)
  have hM:=vY x (by have:=hx.o;omega) (by have:=hx.v;omega)
  rw[if_pos (List.all_eq_true.1 hv x (List.mem_of_getElem? hg))] at hM
  have hs1:=E6 atE hg
  generalize atE x=e at hM hs1
  (repeat'((conv=>whnf);first|refine NBr.pos asQ ?_|refine NIdx.tab (fun _=>rfl) hg ?_|refine NCall.eq hM En ?_|refine NApp.one Dk e ?_|(with_reducible refine NInt.i64 ?_)));(all_goals(conv=>whnf))
  refine⟨i+1,by omega,by omega,?_⟩
  rw[hs1]
  exact leQ
 ·have gi:decide ((i:Int)<r.length)=false:=decide_eq_false (by omega)
  obtain rfl:i=r.length:=by omega
  rw[List.take_length]
  (repeat'((conv=>whnf);refine NBr.neg asQ ?_));(all_goals(conv=>whnf))
  all_goals exact NEnd.eq leQ
theorem W9 (r:List Att) (hz:rdnZ r):Aa Tryz.prog 113 [.d (J7 r)] (fun x=>x=bv (E0 r)):=by
 obtain⟨hr,hs,he⟩:=hz
 have bad:r.all atV=false→E0 r=false:=fun h=>by unfold E0;rw[h];simp
 refine acQ 24 Tryz.func113 rfl rfl fun _ _ _=> ?_
 (all_goals(conv=>whnf))
 refine NLoop.go (fun i:Nat=>i≤r.length∧(r.take i).all atV=true) (fun i=>r.length-i) (fun i=>⟨[(0,.d (J7 r)),(3,iv i)],[],[]⟩) 0 ⟨by omega,rfl⟩ leQ ?_
 rintro i ⟨hi,ha⟩
 by_cases hik:i<r.length
 ·have gi:decide ((i:Int)<r.length)=true:=decide_eq_true (by omega)
  obtain⟨x,hg⟩:∃p,r[i]?=some p:=⟨_,List.getElem?_eq_getElem hik⟩
  have hx:=hs x (List.mem_of_getElem? hg)
  have hV:=dB x (by have:=hx.o;omega) (by have:=hx.v;omega)
  cases h1:atV x
  ·rw[h1] at hV
   rw[bad (by
    cases hh:r.all atV with
    |false=>rfl
    |true=>rw[List.all_eq_true.1 hh x (List.mem_of_getElem? hg)] at h1;cases h1)]
   (repeat'((conv=>whnf);first|refine NBr.pos asQ ?_|refine NBr.yes ?_|refine NIdx.tab (fun _=>rfl) hg ?_|refine NCall.eq hV En ?_));(all_goals(conv=>whnf))
   all_goals exact NEnd.eq leQ
  ·rw[h1] at hV
   (repeat'((conv=>whnf);first|refine NBr.pos asQ ?_|refine NBr.no ?_|refine NIdx.tab (fun _=>rfl) hg ?_|refine NCall.eq hV En ?_|(with_reducible refine NInt.i64 ?_)));(all_goals(conv=>whnf))
   refine⟨i+1,⟨by omega,Hb atV hg h1 ha⟩,by omega,?_⟩
   exact leQ
 ·have gi:decide ((i:Int)<r.length)=false:=decide_eq_false (by omega)
  obtain rfl:i=r.length:=by omega
  rw[List.take_length] at ha
  have hP:=U6 r ⟨hr,hs,he⟩ ha
  have hO:=X9 (r.map atE) (by rw[List.length_map];omega) (fun p hp=>by
   obtain⟨a,ha,rfl⟩:=List.mem_map.1 hp
   have:=Y6 (hs a ha);have:=(hs a ha).o;have:=(hs a ha).v;omega)
  have e:E0 r=(!r.isEmpty&&Ft (r.map atE)):=by unfold E0;rw[ha,Bool.true_and]
  rw[e]
  by_cases h0:r.length>0
  ·have g0:decide ((r.length:Int)>0)=true:=decide_eq_true (by omega)
   rw[show r.isEmpty=false by cases r<;>simp at h0⊢]
   (repeat'((conv=>whnf);first|refine NBr.pos asQ ?_|refine NBr.neg asQ ?_|refine NBr.yes ?_|refine NCall.eq hP En ?_|refine NCall.eq hO En ?_));(all_goals(conv=>whnf))
   all_goals exact NEnd.eq leQ
  ·have g0:decide ((r.length:Int)>0)=false:=decide_eq_false (by omega)
   rw[show r.isEmpty=true by cases r<;>simp at h0⊢]
   (repeat'((conv=>whnf);first|refine NBr.neg asQ ?_|refine NBr.no ?_));(all_goals(conv=>whnf))
   all_goals exact NEnd.eq leQ
theorem pR (r:List Att) (hz:rdnZ r):Aa Tryz.prog 104 [.d (J7 r)] (fun x=>x=if E0 r=true then .tup [Aq 0 5 (Bw r),iv 0] else .tup [Ao,iv 8]):=by
 have hV:=W9 r hz
 cases h:E0 r
 ·rw[if_neg (by simp)]
  rw[h] at hV
  refine acQ 10 Tryz.func104 rfl rfl fun _ _ _=> ?_
  (repeat'((conv=>whnf);first|refine NBr.yes ?_|refine NCall.eq hV En ?_));(all_goals(conv=>whnf))
  all_goals exact NEnd.eq leQ
 ·rw[if_pos rfl]
  rw[h] at hV
  have hP:=U6 r hz (by unfold E0 at h;simp at h;simp;exact h.2.1)
  have hU:Aa Tryz.prog 25 [cv 49,.d (Cs (r.map atE))] (fun x=>x=Aq 0 5 (Bw r)):=Fi 49 (r.map atE) (by rw[List.length_map];have:=hz.l;omega) (by have:=hz.e;omega)
  refine acQ 10 Tryz.func104 rfl rfl fun _ _ _=> ?_
  (repeat'((conv=>whnf);first|refine NBr.no ?_|refine NCall.eq hV En ?_|refine NCall.eq hP En ?_|refine NCall.eq hU En ?_));(all_goals(conv=>whnf))
  all_goals exact NEnd.eq leQ
theorem dD (n:List (List Att)) (hn:nmZ n):Aa Tryz.prog 76 [.d (Ey n)] (fun x=>x=bv (nmV n)):=by
 obtain⟨hr,hs,-⟩:=hn
 unfold nmV
 refine acQ 16 Tryz.func76 rfl rfl fun _ _ _=> ?_
 (all_goals(conv=>whnf))
 refine NLoop.go (fun i:Nat=>i≤n.length∧(n.take i).all E0=true) (fun i=>n.length-i) (fun i=>⟨[(0,.d (Ey n)),(3,iv i)],[],[]⟩) 0 ⟨by omega,rfl⟩ leQ ?_
 rintro i ⟨hi,ha⟩
 by_cases hik:i<n.length
 ·have gi:decide ((i:Int)<n.length)=true:=decide_eq_true (by omega)
  obtain⟨x,hg⟩:∃p,n[i]?=some p:=⟨_,List.getElem?_eq_getElem hik⟩
  have hx:=hs x (List.mem_of_getElem? hg)
  have hV:=W9 x hx
  cases h1:E0 x
  ·rw[h1] at hV
   rw[show n.all E0=false by
    cases hh:n.all E0 with
    |false=>rfl
    |true=>rw[List.all_eq_true.1 hh x (List.mem_of_getElem? hg)] at h1;cases h1]
   (repeat'((conv=>whnf);first|refine NBr.pos asQ ?_|refine NBr.yes ?_|refine NIdx.tab (fun _=>rfl) hg ?_|refine NCall.eq hV En ?_));(all_goals(conv=>whnf))
   all_goals exact NEnd.eq leQ
  ·rw[h1] at hV
   (repeat'((conv=>whnf);first|refine NBr.pos asQ ?_|refine NBr.no ?_|refine NIdx.tab (fun _=>rfl) hg ?_|refine NCall.eq hV En ?_|(with_reducible refine NInt.i64 ?_)));(all_goals(conv=>whnf))
   refine⟨i+1,⟨by omega,Hb E0 hg h1 ha⟩,by omega,?_⟩
   exact leQ
 ·have gi:decide ((i:Int)<n.length)=false:=decide_eq_false (by omega)
  obtain rfl:i=n.length:=by omega
  rw[List.take_length] at ha
  rw[ha]
  (repeat'((conv=>whnf);refine NBr.neg asQ ?_));(all_goals(conv=>whnf))
  all_goals exact NEnd.eq leQ
theorem wC (n:List (List Att)) (hn:nmZ n):Aa Tryz.prog 68 [.d (Ey n)] (fun x=>x=if nmV n=true then .tup [Aq 0 5 (nmE n),iv 0] else .tup [Ao,iv 8]):=by
 have hV:=dD n hn
 obtain⟨hr,hs,hE⟩:=hn
 cases h:nmV n
 ·rw[if_neg (by simp)]
  rw[h] at hV
  refine acQ 31 Tryz.func68 rfl rfl fun _ _ _=> ?_
  (repeat'((conv=>whnf);first|refine NBr.yes ?_|refine NCall.eq hV En ?_));(all_goals(conv=>whnf))
  all_goals exact NEnd.eq leQ
 ·rw[if_pos rfl]
  rw[h] at hV
  have hU:Aa Tryz.prog 25 [cv 48,.d (Cs (n.map Bw))] (fun x=>x=Aq 0 5 (nmE n)):=Fi 48 (n.map Bw) (by rw[List.length_map];omega) (by omega)
  refine acQ 31 Tryz.func68 rfl rfl fun _ _ _=> ?_
  (repeat'((conv=>whnf);first|refine NBr.no ?_|refine NCall.eq hV En ?_));(all_goals(conv=>whnf))
  refine NLoop.goA [.s 4 1 27] (fun i:Nat=>i≤n.length) (fun i=>n.length-i) (fun i=>⟨[(0,.d (Ey n)),(4,Ce 4 1 27 Dk ((n.take i).map Bw)),(5,iv i)],[],[(4,(((n.take i).map Bw).length,1,27))]⟩) 0 (by omega) leQ ?_
  rintro i hi
  have hml:((n.take i).map Bw).length≤100000:=by rw[List.length_map,List.length_take];omega
  by_cases hik:i<n.length
  ·have gi:decide ((i:Int)<n.length)=true:=decide_eq_true (by omega)
   obtain⟨x,hg⟩:∃p,n[i]?=some p:=⟨_,List.getElem?_eq_getElem hik⟩
   have hx:=hs x (List.mem_of_getElem? hg)
   have hM:=pR x hx
   rw[if_pos (List.all_eq_true.1 h x (List.mem_of_getElem? hg))] at hM
   have hs1:=E6 Bw hg
   generalize Bw x=e at hM hs1
   (repeat'((conv=>whnf);first|refine NBr.pos asQ ?_|refine NIdx.tab (fun _=>rfl) hg ?_|refine NCall.eq hM En ?_|refine NApp.one Dk e ?_|(with_reducible refine NInt.i64 ?_)));(all_goals(conv=>whnf))
   refine⟨i+1,by omega,by omega,?_⟩
   rw[hs1]
   exact leQ
  ·have gi:decide ((i:Int)<n.length)=false:=decide_eq_false (by omega)
   obtain rfl:i=n.length:=by omega
   rw[List.take_length]
   (repeat'((conv=>whnf);first|refine NBr.neg asQ ?_|refine NCall.eq hU En ?_));(all_goals(conv=>whnf))
   all_goals exact NEnd.eq leQ
theorem pS (t:Tr) (hn:t.ks.length≤100000) (hk:∀k∈t.ks,k.at):Aa Tryz.prog 119 [trF t] (fun r=>r= .d (iL (F2 t))):=by
 obtain⟨c,n,k,b,ks⟩:=t
 rw[Bm]
 unfold F2
 simp only[Tr.ks] at hn hk⊢
 refine acQ 22 Tryz.func119 rfl rfl fun _ _ _=> ?_
 (all_goals(conv=>whnf))
 refine NLoop.goA [.s 3 2 126] (fun i:Nat=>i≤ks.length) (fun i=>ks.length-i) (fun i=>⟨[(1,.ptr 1 0),(3,Ce 3 2 126 atU ((ks.take i).map Pk)),(4,iv i)],[(1,[iv c,iv n,bv k,.d (Ac false b),.d (.sl false ks.length 5 (Tr.cellss false ks))])],[(3,(((ks.take i).map Pk).length,2,126))]⟩) 0 (by omega) leQ ?_
 rintro i hi
 have hml:((ks.take i).map Pk).length≤100000:=by rw[List.length_map,List.length_take];omega
 by_cases hik:i<ks.length
 ·have gi:decide ((i:Int)<ks.length)=true:=decide_eq_true (by omega)
  obtain⟨x,hg⟩:∃p,ks[i]?=some p:=⟨_,List.getElem?_eq_getElem hik⟩
  have hR:=wA x (hk x (List.mem_of_getElem? hg))
  have hs:=E6 Pk hg
  generalize Pk x=a at hR hs
  obtain⟨c',n',k',b',ks'⟩:=x
  rw[Bm] at hR
  (repeat'((conv=>whnf);first|refine NBr.pos asQ ?_|(refine NIdx.trs hg ?_)|refine NCall.eq hR En ?_|refine NApp.one atU a ?_|(with_reducible refine NInt.i64 ?_)));(all_goals(conv=>whnf))
  refine⟨i+1,by omega,by omega,?_⟩
  rw[hs]
  exact leQ
 ·have gi:decide ((i:Int)<ks.length)=false:=decide_eq_false (by omega)
  obtain rfl:i=ks.length:=by omega
  rw[List.take_length]
  (repeat'((conv=>whnf);refine NBr.neg asQ ?_));(all_goals(conv=>whnf))
  all_goals exact NEnd.eq leQ
structure Tr.nm (t:Tr):Prop where
 l:t.ks.length≤100000
 k:∀k∈t.ks,k.ks.length≤100000∧∀j∈k.ks,j.at
theorem wD (t:Tr) (ht:t.nm):Aa Tryz.prog 84 [trF t] (fun r=>r= .d (Ng (Lx t))):=by
 obtain⟨hn,hk⟩:=ht
 obtain⟨c,n,k,b,ks⟩:=t
 rw[Bm]
 unfold Lx
 simp only[Tr.ks] at hn hk⊢
 refine acQ 22 Tryz.func84 rfl rfl fun _ _ _=> ?_
 (all_goals(conv=>whnf))
 refine NLoop.goA [.s 3 1 124] (fun i:Nat=>i≤ks.length) (fun i=>ks.length-i) (fun i=>⟨[(1,.ptr 1 0),(3,Ce 3 1 124 Rf ((ks.take i).map F2)),(4,iv i)],[(1,[iv c,iv n,bv k,.d (Ac false b),.d (.sl false ks.length 5 (Tr.cellss false ks))])],[(3,(((ks.take i).map F2).length,1,124))]⟩) 0 (by omega) leQ ?_
 rintro i hi
 have hml:((ks.take i).map F2).length≤100000:=by rw[List.length_map,List.length_take];omega
 by_cases hik:i<ks.length
 ·have gi:decide ((i:Int)<ks.length)=true:=decide_eq_true (by omega)
  obtain⟨x,hg⟩:∃p,ks[i]?=some p:=⟨_,List.getElem?_eq_getElem hik⟩
  obtain⟨h1,h2⟩:=hk x (List.mem_of_getElem? hg)
  have hR:=pS x h1 h2
  have hs:=E6 F2 hg
  generalize F2 x=a at hR hs
  obtain⟨c',n',k',b',ks'⟩:=x
  rw[Bm] at hR
  (repeat'((conv=>whnf);first|refine NBr.pos asQ ?_|(refine NIdx.trs hg ?_)|refine NCall.eq hR En ?_|refine NApp.one Rf a ?_|(with_reducible refine NInt.i64 ?_)));(all_goals(conv=>whnf))
  refine⟨i+1,by omega,by omega,?_⟩
  rw[hs]
  exact leQ
 ·have gi:decide ((i:Int)<ks.length)=false:=decide_eq_false (by omega)
  obtain rfl:i=ks.length:=by omega
  rw[List.take_length]
  (repeat'((conv=>whnf);refine NBr.neg asQ ?_));(all_goals(conv=>whnf))
  all_goals exact NEnd.eq leQ
structure Att.eqs (a:Att):Prop where
 v:a.val.length≤1000000000
def wF (r:List Att):Prop:=r.length≤1000000∧∀a∈r,a.eqs
def AZ (n:List (List Att)):Prop:=n.length≤1000000∧∀r∈n,wF r
structure Gn.eqs (g:Gn):Prop where
 b:g.by'.length≤1000000000
 n:AZ g.nm
theorem EN (a b:Att):decide (a=b)=(a.oid==b.oid&&a.val==b.val):=by
 obtain⟨o,v⟩:=a;obtain⟨o',v'⟩:=b
 rw[Bool.eq_iff_iff];simp
theorem GV (a b:Gn):decide (a=b)=(a.k==b.k&&(a.oid==b.oid&&(a.tx==b.tx&&(a.by'==b.by'&&(decide (a.nm=b.nm)&&((a.ak==b.ak&&a.av==b.av)&&(a.pk==b.pk&&a.pv==b.pv))))))):=by
 obtain⟨k,o,t,b1,n,ak,av,pk,pv⟩:=a;obtain⟨k',o',t',b1',n',ak',av',pk',pv'⟩:=b
 rw[Bool.eq_iff_iff];simp[and_assoc]
theorem F3 {p:Prop} (h:p:=by first|rfl|(simp only[AV.gives,AV.ren,AV.give,D.un,D.uns,Ah,Ai,List.nil_append,List.append_nil,List.cons_append,Am,Av,Bv,A1,As,Bp,Bx];first|done|rfl)):p:=h
theorem BA (a b:Att) (ha:a.eqs) (hb:b.eqs):Aa Tryz.prog 150 [atA a,atA b] (fun r=>r=bv (decide (a=b))):=by
 have hB:=Co false false a.val b.val ha.v hb.v
 rw[EN]
 cases h:(a.oid==b.oid)
 ·refine acQ 17 Tryz.func150 rfl rfl fun _ _ _=> ?_
  (repeat'((conv=>whnf);first|refine NBr.neg asQ ?_|refine NBr.no ?_));(all_goals(conv=>whnf))
  all_goals exact NEnd.eq leQ
 ·rw[Bool.true_and]
  refine acQ 17 Tryz.func150 rfl rfl fun _ _ _=> ?_
  (repeat'((conv=>whnf);first|refine NBr.pos asQ ?_|refine NBr.yes ?_|refine NCall.eq hB F3 ?_));(all_goals(conv=>whnf))
  all_goals exact NEnd.eq leQ
theorem BB (a b:List Att) (ha:a.length≤1000000∧∀p∈a,p.eqs) (hb:b.length≤1000000∧∀p∈b,p.eqs):Aa Tryz.prog 115 [.d (J7 a),.d (J7 b)] (fun r=>r=bv (decide (a=b))):=by
 obtain⟨ha,hpa⟩:=ha
 obtain⟨hb,hpb⟩:=hb
 refine acQ 33 Tryz.func115 rfl rfl fun _ _ _=> ?_
 (all_goals(conv=>whnf))
 refine NLoop.go (fun i:Nat=>i≤a.length∧i≤b.length∧a.take i=b.take i) (fun i=>a.length-i) (fun i=>⟨[(0,.d (J7 a)),(1,.d (J7 b)),(5,iv i)],[],[]⟩) 0 ⟨by omega,by omega,rfl⟩ leQ ?_
 rintro i ⟨hi,hj,ht⟩
 by_cases hik:i<a.length∧i<b.length
 ·obtain⟨k1,k2⟩:=hik
  have g1:decide ((i:Int)<a.length)=true:=decide_eq_true (by omega)
  have g2:decide ((i:Int)<b.length)=true:=decide_eq_true (by omega)
  obtain⟨x,hx⟩:∃p,a[i]?=some p:=⟨_,List.getElem?_eq_getElem k1⟩
  obtain⟨y,hy⟩:∃p,b[i]?=some p:=⟨_,List.getElem?_eq_getElem k2⟩
  have hB:=BA x y (hpa x (List.mem_of_getElem? hx)) (hpb y (List.mem_of_getElem? hy))
  by_cases hq:x=y
  ·rw[decide_eq_true hq] at hB
   (repeat'((conv=>whnf);first|refine NBr.pos asQ ?_|refine NBr.yes ?_|refine NBr.no ?_|refine NIdx.tab (fun _=>rfl) hx ?_|refine NIdx.tab (fun _=>rfl) hy ?_|refine NCall.eq hB F3 ?_|(with_reducible refine NInt.i64 ?_)|refine NFact.go ⟨by decide+kernel,by kernel_rfl⟩ ?_));(all_goals(conv=>whnf))
   refine⟨i+1,⟨by omega,by omega,Y0 ht hx (hq▸hy)⟩,by omega,?_⟩
   exact leQ
  ·rw[decide_eq_false hq] at hB
   rw[decide_eq_false (uS hx hy hq)]
   (repeat'((conv=>whnf);first|refine NBr.pos asQ ?_|refine NBr.yes ?_|refine NIdx.tab (fun _=>rfl) hx ?_|refine NIdx.tab (fun _=>rfl) hy ?_|refine NCall.eq hB F3 ?_|refine NFact.go ⟨by decide+kernel,by kernel_rfl⟩ ?_));(all_goals(conv=>whnf))
   all_goals exact NEnd.eq leQ
 ·by_cases he:a.length=b.length
  ·have:=iH ht hik hi hj he
   subst this
   have g1:decide ((i:Int)<a.length)=false:=decide_eq_false (by omega)
   rw[decide_eq_true rfl]
   (repeat'((conv=>whnf);first|refine NBr.neg asQ ?_|refine NBr.no ?_));(all_goals(conv=>whnf))
   all_goals(refine NEnd.eq ?_;(repeat'(first|refine And.intro ?_ ?_|exact rfl));(all_goals(conv=>whnf)))
   all_goals simp
  ·rw[decide_eq_false (fun e=>he (by rw[e]))]
   have g3:((a.length:Int)==b.length)=false:=by rw[beq_eq_false_iff_ne];omega
   by_cases k1:i<a.length
   ·have g1:decide ((i:Int)<a.length)=true:=decide_eq_true (by omega)
    have g2:decide ((i:Int)<b.length)=false:=decide_eq_false (by omega)
    (repeat'((conv=>whnf);first|refine NBr.pos asQ ?_|refine NBr.neg asQ ?_|refine NBr.yes ?_));(all_goals(conv=>whnf))
    all_goals(refine NEnd.eq ?_;(repeat'(first|refine And.intro ?_ ?_|exact rfl));(all_goals(conv=>whnf)))
    all_goals exact g3
   ·have g1:decide ((i:Int)<a.length)=false:=decide_eq_false (by omega)
    (repeat'((conv=>whnf);first|refine NBr.neg asQ ?_|refine NBr.no ?_));(all_goals(conv=>whnf))
    all_goals(refine NEnd.eq ?_;(repeat'(first|refine And.intro ?_ ?_|exact rfl));(all_goals(conv=>whnf)))
    all_goals exact g3
theorem wG (a b:List (List Att)) (ha:a.length≤1000000∧∀p∈a,wF p) (hb:b.length≤1000000∧∀p∈b,wF p):Aa Tryz.prog 79 [.d (Ey a),.d (Ey b)] (fun r=>r=bv (decide (a=b))):=by
 obtain⟨ha,hpa⟩:=ha
 obtain⟨hb,hpb⟩:=hb
 refine acQ 33 Tryz.func79 rfl rfl fun _ _ _=> ?_
 (all_goals(conv=>whnf))
 refine NLoop.go (fun i:Nat=>i≤a.length∧i≤b.length∧a.take i=b.take i) (fun i=>a.length-i) (fun i=>⟨[(0,.d (Ey a)),(1,.d (Ey b)),(5,iv i)],[],[]⟩) 0 ⟨by omega,by omega,rfl⟩ leQ ?_
 rintro i ⟨hi,hj,ht⟩
 by_cases hik:i<a.length∧i<b.length
 ·obtain⟨k1,k2⟩:=hik
  have g1:decide ((i:Int)<a.length)=true:=decide_eq_true (by omega)
  have g2:decide ((i:Int)<b.length)=true:=decide_eq_true (by omega)
  obtain⟨x,hx⟩:∃p,a[i]?=some p:=⟨_,List.getElem?_eq_getElem k1⟩
  obtain⟨y,hy⟩:∃p,b[i]?=some p:=⟨_,List.getElem?_eq_getElem k2⟩
  have hB:=BB x y (hpa x (List.mem_of_getElem? hx)) (hpb y (List.mem_of_getElem? hy))
  by_cases hq:x=y
  ·rw[decide_eq_true hq] at hB
   (repeat'((conv=>whnf);first|refine NBr.pos asQ ?_|refine NBr.yes ?_|refine NBr.no ?_|refine NIdx.tab (fun _=>rfl) hx ?_|refine NIdx.tab (fun _=>rfl) hy ?_|refine NCall.eq hB F3 ?_|(with_reducible refine NInt.i64 ?_)|refine NFact.go ⟨by decide+kernel,by kernel_rfl⟩ ?_));(all_goals(conv=>whnf))
   refine⟨i+1,⟨by omega,by omega,Y0 ht hx (hq▸hy)⟩,by omega,?_⟩
   exact leQ
  ·rw[decide_eq_false hq] at hB
   rw[decide_eq_false (uS hx hy hq)]
   (repeat'((conv=>whnf);first|refine NBr.pos asQ ?_|refine NBr.yes ?_|refine NIdx.tab (fun _=>rfl) hx ?_|refine NIdx.tab (fun _=>rfl) hy ?_|refine NCall.eq hB F3 ?_|refine NFact.go ⟨by decide+kernel,by kernel_rfl⟩ ?_));(all_goals(conv=>whnf))
   all_goals exact NEnd.eq leQ
 ·by_cases he:a.length=b.length
  ·have:=iH ht hik hi hj he
   subst this
   have g1:decide ((i:Int)<a.length)=false:=decide_eq_false (by omega)
   rw[decide_eq_true rfl]
   (repeat'((conv=>whnf);first|refine NBr.neg asQ ?_|refine NBr.no ?_));(all_goals(conv=>whnf))
   all_goals(refine NEnd.eq ?_;(repeat'(first|refine And.intro ?_ ?_|exact rfl));(all_goals(conv=>whnf)))
   all_goals simp
  ·rw[decide_eq_false (fun e=>he (by rw[e]))]
   have g3:((a.length:Int)==b.length)=false:=by rw[beq_eq_false_iff_ne];omega
   by_cases k1:i<a.length
   ·have g1:decide ((i:Int)<a.length)=true:=decide_eq_true (by omega)
    have g2:decide ((i:Int)<b.length)=false:=decide_eq_false (by omega)
    (repeat'((conv=>whnf);first|refine NBr.pos asQ ?_|refine NBr.neg asQ ?_|refine NBr.yes ?_));(all_goals(conv=>whnf))
    all_goals(refine NEnd.eq ?_;(repeat'(first|refine And.intro ?_ ?_|exact rfl));(all_goals(conv=>whnf)))
    all_goals exact g3
   ·have g1:decide ((i:Int)<a.length)=false:=decide_eq_false (by omega)
    (repeat'((conv=>whnf);first|refine NBr.neg asQ ?_|refine NBr.no ?_));(all_goals(conv=>whnf))
    all_goals(refine NEnd.eq ?_;(repeat'(first|refine And.intro ?_ ?_|exact rfl));(all_goals(conv=>whnf)))
    all_goals exact g3
theorem C4 (a b:Gn) (ha:a.eqs) (hb:b.eqs):Aa Tryz.prog 50 [gnA a,gnA b] (fun r=>r=bv (decide (a=b))):=by
 have hB:=Co false false a.by' b.by' ha.b hb.b
 have hN:=wG a.nm b.nm ha.n hb.n
 rw[GV]
 generalize decide (a.nm=b.nm)=en at hN⊢
 obtain⟨k,o,t,b1,n,ak,av,pk,pv⟩:=a;obtain⟨k',o',t',b1',n',ak',av',pk',pv'⟩:=b
 simp only at hB hN⊢
 cases h1:(k==k')
 ·rw[Bool.false_and]
  refine acQ 52 Tryz.func50 rfl rfl fun _ _ _=> ?_
  (repeat'((conv=>whnf);first|refine NBr.neg asQ ?_|refine NBr.no ?_));(all_goals(conv=>whnf))
  all_goals exact NEnd.eq leQ
 rw[Bool.true_and]
 cases h2:(o==o')
 ·rw[Bool.false_and]
  refine acQ 52 Tryz.func50 rfl rfl fun _ _ _=> ?_
  (repeat'((conv=>whnf);first|refine NBr.pos asQ ?_|refine NBr.neg asQ ?_|refine NBr.yes ?_|refine NBr.no ?_));(all_goals(conv=>whnf))
  all_goals exact NEnd.eq leQ
 rw[Bool.true_and]
 cases h3:(t==t')
 ·rw[Bool.false_and]
  refine acQ 52 Tryz.func50 rfl rfl fun _ _ _=> ?_
  (repeat'((conv=>whnf);first|refine NBr.pos asQ ?_|refine NBr.neg asQ ?_|refine NBr.yes ?_|refine NBr.no ?_));(all_goals(conv=>whnf))
  all_goals exact NEnd.eq leQ
 rw[Bool.true_and]
 cases h4:(b1==b1')
 ·rw[h4] at hB
  rw[Bool.false_and]
  refine acQ 52 Tryz.func50 rfl rfl fun _ _ _=> ?_
  (repeat'((conv=>whnf);first|refine NBr.pos asQ ?_|refine NBr.yes ?_|refine NBr.no ?_|refine NCall.eq hB F3 ?_));(all_goals(conv=>whnf))
  all_goals exact NEnd.eq leQ
 rw[h4] at hB
 rw[Bool.true_and]
 cases en with
 |false=>
  rw[Bool.false_and]
  refine acQ 52 Tryz.func50 rfl rfl fun _ _ _=> ?_
  (repeat'((conv=>whnf);first|refine NBr.pos asQ ?_|refine NBr.yes ?_|refine NBr.no ?_|refine NCall.eq hB F3 ?_|refine NCall.eq hN F3 ?_));(all_goals(conv=>whnf))
  all_goals exact NEnd.eq leQ
 |true=>
  rw[Bool.true_and]
  cases h6:(ak==ak'&&av==av')
  ·rw[Bool.false_and]
   refine acQ 52 Tryz.func50 rfl rfl fun _ _ _=> ?_
   (repeat'((conv=>whnf);first|refine NBr.pos asQ ?_|refine NBr.neg asQ ?_|refine NBr.yes ?_|refine NBr.no ?_|refine NCall.eq hB F3 ?_|refine NCall.eq hN F3 ?_|refine NStep.go (C5 rfl rfl (ltN rfl) rfl rfl) ?_));(all_goals(conv=>whnf))
   all_goals exact NEnd.eq leQ
  ·rw[Bool.true_and]
   refine acQ 52 Tryz.func50 rfl rfl fun _ _ _=> ?_
   (repeat'((conv=>whnf);first|refine NBr.pos asQ ?_|refine NBr.yes ?_|refine NCall.eq hB F3 ?_|refine NCall.eq hN F3 ?_|refine NStep.go (C5 rfl rfl (ltN rfl) rfl rfl) ?_));(all_goals(conv=>whnf))
   all_goals exact NEnd.eq leQ
theorem Pl (a b:List Gn) (ha:a.length≤1000000∧∀p∈a,p.eqs) (hb:b.length≤1000000∧∀p∈b,p.eqs):Aa Tryz.prog 32 [.d (Df a),.d (Df b)] (fun r=>r=bv (decide (a=b))):=by
 obtain⟨ha,hpa⟩:=ha
 obtain⟨hb,hpb⟩:=hb
 refine acQ 33 Tryz.func32 rfl rfl fun _ _ _=> ?_
 (all_goals(conv=>whnf))
 refine NLoop.go (fun i:Nat=>i≤a.length∧i≤b.length∧a.take i=b.take i) (fun i=>a.length-i) (fun i=>⟨[(0,.d (Df a)),(1,.d (Df b)),(5,iv i)],[],[]⟩) 0 ⟨by omega,by omega,rfl⟩ leQ ?_
 rintro i ⟨hi,hj,ht⟩
 by_cases hik:i<a.length∧i<b.length
 ·obtain⟨k1,k2⟩:=hik
  have g1:decide ((i:Int)<a.length)=true:=decide_eq_true (by omega)
  have g2:decide ((i:Int)<b.length)=true:=decide_eq_true (by omega)
  obtain⟨x,hx⟩:∃p,a[i]?=some p:=⟨_,List.getElem?_eq_getElem k1⟩
  obtain⟨y,hy⟩:∃p,b[i]?=some p:=⟨_,List.getElem?_eq_getElem k2⟩
  have hB:=C4 x y (hpa x (List.mem_of_getElem? hx)) (hpb y (List.mem_of_getElem? hy))
  by_cases hq:x=y
  ·rw[decide_eq_true hq] at hB
   (repeat'((conv=>whnf);first|refine NBr.pos asQ ?_|refine NBr.yes ?_|refine NBr.no ?_|refine NIdx.tab (fun _=>rfl) hx ?_|refine NIdx.tab (fun _=>rfl) hy ?_|refine NCall.eq hB F3 ?_|(with_reducible refine NInt.i64 ?_)|refine NFact.go ⟨by decide+kernel,by kernel_rfl⟩ ?_));(all_goals(conv=>whnf))
   refine⟨i+1,⟨by omega,by omega,Y0 ht hx (hq▸hy)⟩,by omega,?_⟩
   exact leQ
  ·rw[decide_eq_false hq] at hB
   rw[decide_eq_false (uS hx hy hq)]
   (repeat'((conv=>whnf);first|refine NBr.pos asQ ?_|refine NBr.yes ?_|refine NIdx.tab (fun _=>rfl) hx ?_|refine NIdx.tab (fun _=>rfl) hy ?_|refine NCall.eq hB F3 ?_|refine NFact.go ⟨by decide+kernel,by kernel_rfl⟩ ?_));(all_goals(conv=>whnf))
   all_goals exact NEnd.eq leQ
 ·by_cases he:a.length=b.length
  ·have:=iH ht hik hi hj he
   subst this
   have g1:decide ((i:Int)<a.length)=false:=decide_eq_false (by omega)
   rw[decide_eq_true rfl]
   (repeat'((conv=>whnf);first|refine NBr.neg asQ ?_|refine NBr.no ?_));(all_goals(conv=>whnf))
   all_goals(refine NEnd.eq ?_;(repeat'(first|refine And.intro ?_ ?_|exact rfl));(all_goals(conv=>whnf)))
   all_goals simp
  ·rw[decide_eq_false (fun e=>he (by rw[e]))]
   have g3:((a.length:Int)==b.length)=false:=by rw[beq_eq_false_iff_ne];omega
   by_cases k1:i<a.length
   ·have g1:decide ((i:Int)<a.length)=true:=decide_eq_true (by omega)
    have g2:decide ((i:Int)<b.length)=false:=decide_eq_false (by omega)
    (repeat'((conv=>whnf);first|refine NBr.pos asQ ?_|refine NBr.neg asQ ?_|refine NBr.yes ?_));(all_goals(conv=>whnf))
    all_goals(refine NEnd.eq ?_;(repeat'(first|refine And.intro ?_ ?_|exact rfl));(all_goals(conv=>whnf)))
    all_goals exact g3
   ·have g1:decide ((i:Int)<a.length)=false:=decide_eq_false (by omega)
    (repeat'((conv=>whnf);first|refine NBr.neg asQ ?_|refine NBr.no ?_));(all_goals(conv=>whnf))
    all_goals(refine NEnd.eq ?_;(repeat'(first|refine And.intro ?_ ?_|exact rfl));(all_goals(conv=>whnf)))
    all_goals exact g3
def Tr.isB (c n:Nat) (k:Bool):Tr→Bool
 | .mk c' n' k' _ _=>c'==c&&k'==k&&n'==n
theorem BC (t:Tr) (c n:Nat) (k:Bool):Aa Tryz.prog 85 [trF t,iv c,bv k,iv n] (fun r=>r=bv (t.isB c n k)):=by
 obtain⟨c',n',k',b,ks⟩:=t
 rw[Bm]
 refine acQ 25 Tryz.func85 rfl rfl fun _ _ _=> ?_
 (repeat'((conv=>whnf);first|refine NBr.yes ?_|refine NBr.no ?_|(refine NBr.mk (fun hc=> ?_) (fun hc=> ?_)<;>(have hcP:=hc;(try simp only[beq_iff_eq,beq_eq_false_iff_ne,ne_eq] at hcP)<;>first|(exfalso;omega)|skip))));(all_goals(conv=>whnf))
 all_goals(refine NEnd.dat rfl (?_:_=_);try simp only[AV.dat])
 all_goals
  simp only[E4] at*
  simp only[Tr.isB, *]
  first|rfl|(simp;done)
def okT (d:Nat) (p:List UInt8) (t:Tr):Prop:=One d p∧trD d p=t
theorem okT.up {d e:Nat} {p:List UInt8} {t:Tr} (h:okT d p t) (hd:d≤e):okT e p t:=by
 obtain⟨h1,h2⟩:=h.1.mono hd
 exact⟨h1,h2.trans h.2⟩
theorem okT.of {d:Nat} {p:List UInt8} (h:One d p):okT d p (trD d p):=⟨h,rfl⟩
theorem okT.prim (d:Nat) {c n:Nat} (l:List UInt8) (hc:c≤3) (hn:n≤30) (hl:l.length≤2147483600):okT (d+1) (Ae c n false l) (.mk c n false l []):=Up l hc hn hl
theorem okT.con1 {d c n:Nat} {p:List UInt8} {t:Tr} (hc:c≤3) (hn:n≤30) (h:okT d p t) (hl:p.length≤2000000000):okT (d+1) (Ae c n true p) (.mk c n true [] [t]):=by
 have:=cZ hc hn h.1 hl
 rw[h.2] at this;exact this
theorem okT.con2 {d c n:Nat} {p q:List UInt8} {t u:Tr} (hc:c≤3) (hn:n≤30) (h1:okT d p t) (h2:okT d q u) (hl:p.length+q.length≤2000000000):okT (d+1) (Ae c n true (p++q)) (.mk c n true [] [t,u]):=by
 have:=dA hc hn h1.1 h2.1 hl
 rw[h1.2,h2.2] at this;exact this
theorem Xa (n:Nat):1≤(Eb n).length:=by
 unfold Eb
 split
 ·rename_i h;rw[Cb (by omega)];simp
 ·simp
theorem pT {p:List UInt8} {c n:Nat} (h:Dj (Ae c n true p)=true) (hc:c≤3) (hn:n≤30) (hl:p.length≤2147483600):∃ks,okT 16 (Ae c n true p) (.mk c n true [] ks)∧Tr.encs ks=p:=by
 have ho:=Ls h
 obtain⟨e1,e2⟩:=ho.enc
 have hsh:=vV (t:=trD 16 (Ae c n true p)) ho
 generalize ht:trD 16 (Ae c n true p)=t at e1 e2 hsh
 obtain⟨c',n',k',v,ks⟩:=t
 rw[Tr.ok] at e1
 rw[Tr.enc] at e2
 have hlen:(v++Tr.encs ks).length≤2147483647:=by
  have:=congrArg List.length e2
  unfold Ae at this
  rw[D4,D4] at this
  have h1:=Ht p.length (by omega)
  have h2:1≤(Eb (v++Tr.encs ks).length).length:=Xa _
  omega
 have hj:=Tv.inj (t:=⟨c',n',k',v++Tr.encs ks⟩) (u:=⟨c,n,true,p⟩) (r:=[]) (s:=[]) ⟨e1.1,e1.2.1,hlen⟩ ⟨hc,hn,by show p.length≤_;omega⟩ (by rw[List.append_nil,List.append_nil];exact e2)
 have h2:=hj.1
 simp only[Tv.mk.injEq] at h2
 obtain⟨rfl,rfl,rfl,h3⟩:=h2
 have hv:v=[]:=hsh rfl
 subst hv
 exact⟨ks,⟨ho,ht⟩,h3⟩
theorem EO {g:Gn} (h:gnW g=true) (hs:g.mid):∃t:Tr,okT 20 (gnE g) t∧Ax t=g∧t.c=2∧(t.n:Int)=g.k∧t.k=C8 g.k:=by
 obtain⟨ha,hf,⟨c,hc⟩,hp⟩:=(Ms g).1 h
 obtain⟨n,hn,hk⟩:=N5 hc
 have hl:=hs.c
 rw[hc] at hl
 have hl:c.length≤700000:=hl
 have e:gnE g=Ae 2 n (C8 n) c:=by unfold gnE;rw[hc,hk];rfl
 have hr:=lH hk ha hc hp hs.s
 rw[e]
 obtain⟨k,oid,tx,by',nm,ak,av,pk,pv⟩:=g
 have hsm:=hs.s
 obtain⟨s1,s2,s3,s4,s5,s6⟩:=hsm
 simp only at hk s1 s2 s3 s4 s5 s6
 subst hk
 rcases(by omega:n=0∨n=1∨n=2∨n=3∨n=4∨n=5∨n=6∨n=7∨n=8) with rfl|rfl|rfl|rfl|rfl|rfl|rfl|rfl|rfl
 ·
  obtain⟨o',b',e1,e2,e3⟩:=lE (c:=c) (by omega) (by show(rdP 0 c).2=true;rw[hr])
  have e1:rdP 0 c=_:=e1
  rw[hr] at e1
  simp only[Prod.mk.injEq,Gn.mk.injEq,and_true] at e1
  obtain⟨-,rfl,rfl,rfl,rfl,rfl,rfl,rfl,rfl⟩:=e1
  have k1:=D5 oid
  have k2:=Al 0 6 false (Au oid) (by omega)
  have k3:=Al 2 0 true by' (by omega)
  have ho:Dj by'=true:=hf
  have q1:=okT.prim 16 (c:=0) (n:=6) (Au oid) (by omega) (by omega) (by omega)
  have q2:=okT.con1 (c:=2) (n:=0) (by omega) (by omega) (okT.of (Ls ho)) (by omega)
  have q3:=okT.con2 (c:=2) (n:=0) (by omega) (by omega) q1 q2 (by omega)
  rw[e3]
  refine⟨_,q3.up (by omega),?_,rfl,rfl,rfl⟩
  show(⟨0,odT (Au oid),[],Tr.encs [trD 16 by'],[],0,[],0,[]⟩:Gn)=_
  rw[(Tz e2).1]
  have:Tr.encs [trD 16 by']=by':=by rw[Tr.encs,Tr.encs,List.append_nil,(Ls ho).enc.2]
  rw[this];rfl
 ·have q:=okT.prim 19 (c:=2) (n:=1) c (by omega) (by omega) (by omega)
  refine⟨_,q,?_,rfl,rfl,rfl⟩
  exact congrArg Prod.fst hr
 ·have q:=okT.prim 19 (c:=2) (n:=2) c (by omega) (by omega) (by omega)
  refine⟨_,q,?_,rfl,rfl,rfl⟩
  exact congrArg Prod.fst hr
 ·have hr':((⟨3,[],[],c,[],0,[],0,[]⟩:Gn),true)=_:=hr
  simp only[Prod.mk.injEq,Gn.mk.injEq,and_true] at hr'
  obtain⟨-,rfl,rfl,rfl,rfl,rfl,rfl,rfl,rfl⟩:=hr'
  have ho:Dj (Ae 2 3 true c)=true:=hf
  obtain⟨ks,q1,q2⟩:=pT ho (by omega) (by omega) (by omega)
  refine⟨_,q1.up (by omega),?_,rfl,rfl,rfl⟩
  show(⟨3,[],[],Tr.encs ks,[],0,[],0,[]⟩:Gn)=_
  rw[q2];rfl
 ·have hcc:(if nmV nm=true then some (nmE nm) else none)=some c:=hc
  by_cases hv:nmV nm=true
  ·rw[if_pos hv] at hcc
   obtain rfl:=Option.some.inj hcc
   obtain⟨a1,a2⟩:=EM hv s4
   have q:=okT.con1 (c:=2) (n:=4) (by omega) (by omega) (okT.of a1) (by omega)
   refine⟨_,q,?_,rfl,rfl,rfl⟩
   rw[C6] at ha
   obtain⟨b1,b2,b3,b4,b5⟩:=ha
   obtain rfl:oid=[]:=by simpa using b1
   obtain rfl:tx=[]:=by simpa using b2
   obtain rfl:by'=[]:=by simpa using b3
   obtain⟨⟨rfl,rfl⟩,rfl,rfl⟩:(ak=0∧av=[])∧pk=0∧pv=[]:=by simpa using b5
   show(⟨4,[],[],[],Lx (trD 19 (nmE nm)),0,[],0,[]⟩:Gn)=_
   rw[a2];rfl
  ·rw[if_neg hv] at hcc;cases hcc
 ·rw[C6] at ha
  obtain⟨b1,b2,b3,b4,b5⟩:=ha
  obtain rfl:oid=[]:=by simpa using b1
  obtain rfl:tx=[]:=by simpa using b2
  obtain rfl:by'=[]:=by simpa using b3
  obtain rfl:nm=[]:=by simpa using b4
  have hcc:Lv ⟨5,[],[],[],[],ak,av,pk,pv⟩=some c:=hc
  have hpp:((zT ak av||fiB ak av)&&fiB pk pv)=true:=hp
  rw[Bool.and_eq_true] at hpp
  have v2:=Ju hpp.2
  have l2:=Fb v2 s6
  obtain⟨p1,p2,p3⟩:=vX v2 s6
  have w2:=okT.con1 (c:=2) (n:=1) (by omega) (by omega) (okT.of p1) (by omega)
  have x2:=Al 2 1 true (txE pk pv) (by omega)
  unfold Lv at hcc
  simp only at hcc
  cases hz:zT ak av
  ·rw[hz,Bool.false_or] at hpp
   have v1:=Ju hpp.1
   have l1:=Fb v1 s5
   obtain⟨a1,a2,a3⟩:=vX v1 s5
   have w1:=okT.con1 (c:=2) (n:=0) (by omega) (by omega) (okT.of a1) (by omega)
   have x1:=Al 2 0 true (txE ak av) (by omega)
   rw[hz,v1,v2] at hcc
   have hcc:some (Ae 2 0 true (txE ak av)++Ae 2 1 true (txE pk pv))=some c:=hcc
   obtain rfl:=Option.some.inj hcc
   have q:=okT.con2 (c:=2) (n:=5) (by omega) (by omega) w1 w2 (by omega)
   refine⟨_,q.up (by omega),?_,rfl,rfl,rfl⟩
   show(⟨5,[],[],[],[],M2 (trD 1 (txE ak av)),M3 (trD 1 (txE ak av)),M2 (trD 1 (txE pk pv)),M3 (trD 1 (txE pk pv))⟩:Gn)=_
   rw[a2,a3,p2,p3];rfl
  ·obtain⟨rfl,rfl⟩:=Qj.1 hz
   rw[hz,v2] at hcc
   have hcc:some (Ae 2 1 true (txE pk pv))=some c:=hcc
   obtain rfl:=Option.some.inj hcc
   have q:=okT.con1 (c:=2) (n:=5) (by omega) (by omega) w2 (by omega)
   refine⟨_,q.up (by omega),?_,rfl,rfl,rfl⟩
   show(⟨5,[],[],[],[],0,[],M2 (trD 1 (txE pk pv)),M3 (trD 1 (txE pk pv))⟩:Gn)=_
   rw[p2,p3];rfl
 ·have q:=okT.prim 19 (c:=2) (n:=6) c (by omega) (by omega) (by omega)
  refine⟨_,q,?_,rfl,rfl,rfl⟩
  exact congrArg Prod.fst hr
 ·have q:=okT.prim 19 (c:=2) (n:=7) c (by omega) (by omega) (by omega)
  refine⟨_,q,?_,rfl,rfl,rfl⟩
  exact congrArg Prod.fst hr
 ·have q:=okT.prim 19 (c:=2) (n:=8) c (by omega) (by omega) (by omega)
  refine⟨_,q,?_,rfl,rfl,rfl⟩
  exact congrArg Prod.fst hr
theorem wH {d:Nat} {p:List UInt8} {t:Tr} (h:okT d p t) (hd:d≤60):Cp p=t:=by
 have h':=h.up hd
 have h1:rT 60 p=⟨[trD 60 p],p.length,0,0⟩:=h'.1
 unfold Cp Cj
 rw[h1,Mn (by omega)]
 exact h'.2
end Go.Proofs.YtgmbmfoabndmoaaGreatDoor
