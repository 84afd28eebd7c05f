/- MR: the texts GenZ R11 R12 EqG T4 GenZ2, one behind the other. No condition but what each lemma says. -/
import Derived.Test.YtgamacmidohpfaaGreatDoorMP
import Derived.Test.YtgamacmidohpfaaGreatDoorMQ
set_option maxRecDepth 100000
set_option maxHeartbeats 16000000
namespace Go.Proofs.YtgamacmidohpfaaGreatDoor
open Go.RowKit
def Tr.c:Tr→Nat
 | .mk c _ _ _ _=>c
def Tr.k:Tr→Bool
 | .mk _ _ k _ _=>k
def Yx (t:Tr) (i:Nat):List UInt8:=match t.ks[i]? with
 |some k=>k.enc
 |none=>[]
def Pl (t:Tr):Att:=⟨odT (t.kid 0).v,Yx t 1⟩
def Gq (t:Tr):List Att:=t.ks.map Pl
def Mb (t:Tr):List (List Att):=t.ks.map Gq
def isT (t:Tr) (c n:Nat) (k:Bool):Bool:=t.c==c&&(t.k==k&&t.n==n)
def Nb (t:Tr):Int:=E2 t.n t.v
def Nc (t:Tr):List UInt8:=Cm t.n t.v
def Bn (t:Tr):Gn:=match t.n with
 |0=>⟨0,odT (t.kid 0).v,[],Tr.encs (t.kid 1).ks,[],0,[],0,[]⟩
 |1=>⟨1,[],Cm 22 t.v,[],[],0,[],0,[]⟩
 |2=>⟨2,[],Cm 22 t.v,[],[],0,[],0,[]⟩
 |3=>⟨3,[],[],Tr.encs t.ks,[],0,[],0,[]⟩
 |4=>⟨4,[],[],[],Mb (t.kid 0),0,[],0,[]⟩
 |5=>if isT (t.kid 0) 2 0 true then⟨5,[],[],[],[],Nb ((t.kid 0).kid 0),Nc ((t.kid 0).kid 0),Nb ((t.kid 1).kid 0),Nc ((t.kid 1).kid 0)⟩ else⟨5,[],[],[],[],0,[],Nb ((t.kid 0).kid 0),Nc ((t.kid 0).kid 0)⟩
 |6=>⟨6,[],Cm 22 t.v,[],[],0,[],0,[]⟩
 |7=>⟨7,[],[],t.v,[],0,[],0,[]⟩
 |8=>⟨8,odT t.v,[],[],[],0,[],0,[]⟩
 |n=>⟨n,[],[],[],[],0,[],0,[]⟩
theorem uI {d:Nat} {l:List UInt8} {t:Tr} {sz:Nat} (h:rT d l=⟨[t],sz,0,0⟩):t.k=true→t.v=[]:=by
 cases d with
 |zero=>simp[rT,TR.bad] at h
 |succ d=>
  rw[rT] at h
  unfold rTH at h
  split at h
  ·simp[TR.bad] at h
  ·split at h
   ·simp[TR.bad] at h
   ·split at h
    ·simp only[TR.mk.injEq,List.cons.injEq,and_true] at h
     obtain⟨rfl,-⟩:=h
     intro hk;cases hk
    ·split at h
     ·simp[TR.bad] at h
     ·simp only[TR.mk.injEq,List.cons.injEq,and_true] at h
      obtain⟨rfl,-⟩:=h
      intro _;rfl
theorem uJ {d c n:Nat} {p:List UInt8} (hc:c≤3) (hn:n≤30) (h:One d p) (hl:p.length≤2000000000):One (d+1) (Ai c n true p)∧trD (d+1) (Ai c n true p)= .mk c n true [] [trD d p]:=by
 have:=M2 (d:=d) [p] hc hn (fun q hq=>by rw[List.mem_singleton.1 hq];exact⟨h,by omega⟩) (by simp;omega)
 simpa using this
theorem cC {d c n:Nat} {p q:List UInt8} (hc:c≤3) (hn:n≤30) (h1:One d p) (h2:One d q) (hl:p.length+q.length≤2000000000):One (d+1) (Ai c n true (p++q))∧trD (d+1) (Ai c n true (p++q))= .mk c n true [] [trD d p,trD d q]:=by
 have:=M2 (d:=d) [p,q] hc hn (fun x hx=>by
  rcases List.mem_cons.1 hx with rfl|hx
  ·exact⟨h1,by omega⟩
  ·rw[List.mem_singleton.1 hx];exact⟨h2,by omega⟩) (by simp;omega)
 simpa using this
theorem uK {a:Att} (h:atV a=true) (hs:a.sm):One 17 (atE a)∧Pl (trD 17 (atE a))=a:=by
 obtain⟨h1,h2⟩:=R4 h
 have k1:=Ex a.oid
 have o1:=hs.o
 have o2:=hs.v
 have k2:=At 0 6 false (Bm a.oid) (by omega)
 obtain⟨b1,b2⟩:=L5 (d:=15) (c:=0) (n:=6) (Bm a.oid) (by omega) (by omega) (by omega)
 have hv:=L4 h2
 obtain⟨c1,c2⟩:=cC (d:=16) (c:=0) (n:=16) (by omega) (by omega) b1 hv (by omega)
 refine⟨c1,?_⟩
 have e:trD 17 (atE a)= .mk 0 16 true [] [trD 16 (Ai 0 6 false (Bm a.oid)),trD 16 a.val]:=c2
 rw[e]
 show(⟨odT (trD 16 (Ai 0 6 false (Bm a.oid))).v,(trD 16 a.val).enc⟩:Att)=a
 rw[b2,hv.enc.2]
 show(⟨odT (Bm a.oid),a.val⟩:Att)=a
 rw[(Tl h1).1]
theorem jN {r:List Att} (h:Fp r=true) (hz:rdnZ r):One 18 (Cu r)∧Gq (trD 18 (Cu r))=r:=by
 obtain⟨h0,h1,h2⟩:=R5 h
 obtain⟨hl,hs,hq⟩:=hz
 obtain⟨c1,c2⟩:=M2 (d:=17) (c:=0) (n:=17) (r.map atE) (by omega) (by omega) (fun p hp=>by
  obtain⟨a,ha,rfl⟩:=List.mem_map.1 hp
  have:=Yn (hs a ha)
  have:=(hs a ha).o
  have:=(hs a ha).v
  exact⟨(uK (List.all_eq_true.1 h1 a ha) (hs a ha)).1,by omega⟩) (by omega)
 refine⟨c1,?_⟩
 have e:trD 18 (Cu r)= .mk 0 17 true [] ((r.map atE).map (trD 17)):=c2
 rw[e]
 show((r.map atE).map (trD 17)).map Pl=r
 rw[List.map_map,List.map_map]
 conv=>rhs;rw[←List.map_id r]
 exact List.map_congr_left fun a ha=>(uK (List.all_eq_true.1 h1 a ha) (hs a ha)).2
theorem DJ {n:List (List Att)} (h:nmV n=true) (hs:nmZ n):One 19 (nmE n)∧Mb (trD 19 (nmE n))=n:=by
 have he:=hs.e
 obtain⟨c1,c2⟩:=M2 (d:=18) (c:=0) (n:=16) (n.map Cu) (by omega) (by omega) (fun p hp=>by
  obtain⟨r,hr,rfl⟩:=List.mem_map.1 hp
  have:=tK (hs.r r hr)
  have:=(hs.r r hr).e
  exact⟨(jN (List.all_eq_true.1 h r hr) (hs.r r hr)).1,by omega⟩) (by omega)
 refine⟨c1,?_⟩
 have e:trD 19 (nmE n)= .mk 0 16 true [] ((n.map Cu).map (trD 18)):=c2
 rw[e]
 show((n.map Cu).map (trD 18)).map Gq=n
 rw[List.map_map,List.map_map]
 conv=>rhs;rw[←List.map_id n]
 exact List.map_congr_left fun r hr=>(jN (List.all_eq_true.1 h r hr) (hs.r r hr)).2
theorem uL {k:Int} {l:List UInt8} (h:Ao k l=true) (hl:l.length≤3000000):One 1 (txE k l)∧Nb (trD 1 (txE k l))=k∧Nc (trD 1 (txE k l))=l:=by
 obtain⟨n,h1,h2,rfl⟩:=Pg h
 have h4:=F9 h
 obtain⟨b1,b2⟩:=L5 (d:=0) (c:=0) (n:=n) (chS (n:Int) l) (by omega) h2 (by omega)
 have e:txE (n:Int) l=Ai 0 n false (chS (n:Int) l):=by unfold txE;rw[Int.toNat_natCast]
 rw[e]
 obtain⟨c1,c2,-⟩:=Ql h
 refine⟨b1,?_,?_⟩
 ·rw[b2];exact c1
 ·rw[b2];exact c2
theorem Jg {p:Prop} (h:p:=by first|rfl|(simp only[AV.gives,AV.ren,AV.give,D.un,D.uns,Al,Ak,List.nil_append,List.append_nil,List.cons_append,As,A0,Jz,C9,Cl,Wn,Tr.cellss_un,A5,A2,Bi];first|done|rfl)):p:=h
theorem cD (a:Att) (ho:a.oid.length≤3500000) (hv:a.val.length≤1000000000):Ab Tryz.prog 120 [atA a] (fun r=>r=bv (atV a)):=by
 have hV:=Je a.oid ho
 have hO:=N6 a.val hv
 unfold atV
 cases h:Es a.oid
 ·rw[h] at hV
  refine acQ 11 Tryz.func120 rfl rfl fun _ _ _=> ?_
  (repeat'((conv=>whnf);first|refine Af ?_|refine Aa hV rfl ?_|exact zE))
 ·rw[h] at hV
  rw[Bool.true_and]
  refine acQ 11 Tryz.func120 rfl rfl fun _ _ _=> ?_
  (repeat'((conv=>whnf);first|refine Ac ?_|refine Aa hV rfl ?_|refine Aa hO Jg ?_|exact zE))
theorem uM (a:Att) (ho:a.oid.length≤3500000) (hv:a.val.length≤100000000):Ab Tryz.prog 146 [atA a] (fun r=>r=if atV a=true then .tup [Be 0 5 (atE a),iv 0] else .tup [Bc,iv 8]):=by
 have hV:=cD a ho (by omega)
 cases h:atV a
 ·rw[if_neg (by simp)]
  rw[h] at hV
  refine acQ 14 Tryz.func146 rfl rfl fun _ _ _=> ?_
  (repeat'((conv=>whnf);first|refine Ac ?_|refine Aa hV Jg ?_|exact zE))
 ·rw[if_pos rfl]
  rw[h] at hV
  have hO:=Uc a.oid ho
  have k1:=Ex a.oid
  have k2:=At 0 6 false (Bm a.oid) (by omega)
  have hP:=F6 48 [Qf a.oid,a.val] (by simp) (by simp[Qf];omega)
  rw[show Ju 48 [Qf a.oid,a.val].flatten=atE a by simp only[List.flatten_cons,List.flatten_nil,List.append_nil];rfl] at hP
  have hP:Ab Tryz.prog 34 [cv 48,.d (C7 [Qf a.oid,a.val])] (fun r=>r=Be 0 5 (atE a)):=hP
  generalize Qf a.oid=ob at hO hP
  refine acQ 14 Tryz.func146 rfl rfl fun _ _ _=> ?_
  (repeat'((conv=>whnf);first|refine Af ?_|refine Aa hV Jg ?_|refine Aa hO rfl ?_|refine Aa hP Jg ?_|refine zF ?_|exact zE))
theorem uN (t:Tr) (i:Nat) (hi:i≤1000000) (hk:∀k,t.ks[i]?=some k→k.ok∧k.enc.length≤900000000):Ab Tryz.prog 190 [trF t,iv i] (fun r=>r= .d (Ag true (Yx t i))):=by
 obtain⟨c,n,k,b,ks⟩:=t
 have g0:decide ((i:Int)<0)=false:=decide_eq_false (by omega)
 rw[Ca]
 unfold Yx
 simp only[Tr.ks] at hk⊢
 by_cases h:i<ks.length
 ·have g1:decide ((i:Int)≥ks.length)=false:=decide_eq_false (by omega)
  obtain⟨x,hx⟩:∃x,ks[i]?=some x:=⟨_,Ar h⟩
  obtain⟨h1,h2⟩:=hk x hx
  have hB:=N5 x h1 h2
  rw[hx]
  simp only
  generalize x.enc=e at hB
  obtain⟨c',n',k',b',ks'⟩:=x
  rw[Ca] at hB
  refine acQ 20 Tryz.func190 rfl rfl fun _ _ _=> ?_
  (repeat'((conv=>whnf);first|refine zN ?_|refine Af ?_|(refine Fd hx ?_)|refine Aa hB Jg ?_|exact zE))
 ·have g1:decide ((i:Int)≥ks.length)=true:=decide_eq_true (by omega)
  rw[List.getElem?_eq_none (by omega)]
  refine acQ 20 Tryz.func190 rfl rfl fun _ _ _=> ?_
  (repeat'((conv=>whnf);first|refine zP ?_|refine zN ?_|refine Af ?_|exact zE))
abbrev atQ (a:Att):AV:= .agg [.d (sD a.oid),.d (Ag true a.val)]
structure Tr.at (t:Tr):Prop where
 o:(t.kid 0).v.length≤30000
 v:∀k,t.ks[1]?=some k→k.ok∧k.enc.length≤900000000
theorem uO (t:Tr) (ht:t.at):Ab Tryz.prog 173 [trF t] (fun r=>r=atQ (Pl t)):=by
 have hK:=I3 t 0 (by omega)
 have hR:=L2 (t.kid 0) ht.o
 have hO:=uN t 1 (by omega) ht.v
 unfold Pl
 generalize odT (t.kid 0).v=o at hR⊢
 generalize t.kid 0=k0 at hK hR
 generalize Yx t 1=e at hO⊢
 obtain⟨c,n,k,b,ks⟩:=t
 obtain⟨c',n',k',b',ks'⟩:=k0
 rw[Ca] at hK hR hO
 rw[Ca] at hK⊢
 refine acQ 9 Tryz.func173 rfl rfl fun _ _ _=> ?_
 (repeat'((conv=>whnf);first|refine Aa hK Jg ?_|refine Aa hR Jg ?_|refine Aa hO Jg ?_|refine zF ?_|exact zE))
theorem uP (k:Int) (l:List UInt8) (hl:l.length≤16777216):Ab Tryz.prog 76 [txA k l] (fun r=>r=frS k l):=by
 have hE:=Gp k l hl
 unfold frS
 cases hv:Ao k l
 ·rw[show Eb k l=[] by unfold Eb;rw[hv];rfl,show Hi k l=8 by unfold Hi;rw[hv];rfl] at hE
  rw[if_neg (by simp)]
  clear hv
  refine acQ 18 Tryz.func76 rfl rfl fun _ _ _=> ?_
  (repeat'((conv=>whnf);first|refine Ac ?_|refine Aa hE rfl ?_|exact zE))
 ·rw[show Eb k l=chS k l by unfold Eb;rw[hv];rfl,show Hi k l=0 by unfold Hi;rw[hv];rfl] at hE
  have hW4:Aq k≤4:=by unfold Aq;(repeat' split)<;>omega
  have hch:(chS k l).length≤4*l.length:=by
   have:=Ma (f:=Ip (Aq k)) (m:=4) (fun x=>Lc _ x hW4) (rns l)
   rw[Jj hv] at this
   have:=Pk l (by unfold Ao at hv;simp at hv;exact hv.1.1);omega
  have hk:¬Aq k<0:=by unfold Ao at hv;simp at hv;omega
  rw[if_pos rfl]
  have hP:Ab Tryz.prog 32 [cv (UInt8.ofNat k.toNat).toNat,.d (Ag false (chS k l))] (fun r=>r=Be 0 5 (txE k l)):=by
   have:=Df (UInt8.ofNat k.toNat) (chS k l) (by omega)
   rw[show Ju (UInt8.ofNat k.toNat) (chS k l)=txE k l from ?_] at this
   ·exact this
   ·unfold txE Ai;rw[show idN ((0:Nat):Int) false (k.toNat:Int)=k.toNat by rw[tD];simp]
  generalize chS k l=ch at hE hP
  generalize txE k l=e at hP⊢
  clear hv
  obtain⟨q,rfl⟩:∃q:Nat,k=q:=⟨k.toNat,by rcases De k hk with rfl|rfl|rfl|rfl|rfl|rfl|rfl<;>rfl⟩
  rw[Int.toNat_natCast] at hP
  refine acQ 18 Tryz.func76 rfl rfl fun _ _ _=> ?_
  (repeat'((conv=>whnf);first|refine Af ?_|refine Aa hE rfl ?_|(with_reducible refine Bf (q) ?_)|refine Aa hP Jg ?_|exact zE))
theorem cE (t:Tr) (hl:t.v.length≤1000000):Ab Tryz.prog 116 [trF t] (fun r=>r=txA (Nb t) (Nc t)):=by
 obtain⟨c,n,k,b,ks⟩:=t
 have hD:=Hv n b hl
 rw[Ca]
 refine acQ 14 Tryz.func116 rfl rfl fun _ _ _=> ?_
 (repeat'((conv=>whnf);refine Aa hD Jg ?_));(all_goals(conv=>whnf))
 all_goals exact zE
theorem Ws (k:Int) (l:List UInt8) (hl:l.length≤16777216):Ab Tryz.prog 64 [txA k l] (fun r=>r=bv (fiB k l)):=by
 have hV:=Hh k l hl
 unfold fiB
 cases hv:Ao k l
 ·rw[hv] at hV
  clear hv
  refine acQ 19 Tryz.func64 rfl rfl fun _ _ _=> ?_
  (repeat'((conv=>whnf);first|refine Ac ?_|refine Aa hV rfl ?_|exact zE))
 ·have hk:¬Aq k<0:=by unfold Ao at hv;simp at hv;omega
  rw[hv] at hV
  clear hv
  cases l with
  |nil=>
   refine acQ 19 Tryz.func64 rfl rfl fun _ _ _=> ?_
   (repeat'((conv=>whnf);first|refine Ac ?_|refine Af ?_|refine Aa hV rfl ?_|exact zE))
  |cons x r=>
   have g:(x::r==[])=false:=rfl
   rw[g]
   rcases De k hk with rfl|rfl|rfl|rfl|rfl|rfl|rfl
   all_goals
    refine acQ 19 Tryz.func64 rfl rfl fun _ _ _=> ?_
    (repeat'((conv=>whnf);first|refine zN ?_|refine Ac ?_|refine Af ?_|refine Aa hV rfl ?_|exact zE))
theorem Fg {p:Prop} (h:p:=by first|rfl|(simp only[AV.gives,AV.ren,AV.give,D.un,D.uns,Al,Ak,List.nil_append,List.append_nil,List.cons_append,As,A0,Jz,C9,Cl,Wn,Tr.cellss_un,A5,A2,Bi,Dn,Cq,iZ,Wo];first|done|rfl)):p:=h
theorem Ut (r:List Att) (hz:rdnZ r) (hv:r.all atV=true):Ab Tryz.prog 122 [.d (Lr r)] (fun x=>x= .d (tE (r.map atE))):=by
 obtain⟨hr,hs,he⟩:=hz
 refine acQ 26 Tryz.func122 rfl rfl fun _ _ _=> ?_
 (all_goals(conv=>whnf))
 refine Bg [.s 3 1 22] (fun i:Nat=>i≤r.length) (fun i=>r.length-i) (fun i=>⟨[(0,.d (Lr r)),(3,C9 3 1 22 Fe ((r.take i).map atE)),(4,iv i)],[],[(3,(((r.take i).map atE).length,1,22))]⟩) 0 (by omega) leQ ?_
 rintro i hi
 have hml:((r.take i).map atE).length≤100000:=by rw[List.length_map,Am];omega
 by_cases hik:i<r.length
 ·have gi:decide ((i:Int)<r.length)=true:=decide_eq_true (by omega)
  obtain⟨x,hg⟩:∃p,r[i]?=some p:=⟨_,Ar hik⟩
  have hx:=hs x (Bl hg)
  have hM:=uM x (by have:=hx.o;omega) (by have:=hx.v;omega)
  rw[if_pos (List.all_eq_true.1 hv x (Bl hg))] at hM
  have hs1:=Gm atE hg
  generalize atE x=e at hM hs1
  (repeat'((conv=>whnf);first|refine zP ?_|refine NIdx.tab (fun _=>rfl) hg ?_|refine Aa hM Fg ?_|refine A9 Fe e ?_|(with_reducible refine NInt.i64 ?_)));(all_goals(conv=>whnf))
  refine⟨i+1,by omega,by omega,?_⟩
  rw[hs1]
  exact leQ
 ·have gi:decide ((i:Int)<r.length)=false:=decide_eq_false (by omega)
  obtain rfl:i=r.length:=by omega
  rw[List.take_length]
  (repeat'((conv=>whnf);refine zN ?_));(all_goals(conv=>whnf))
  all_goals exact zE
theorem Wt (r:List Att) (hz:rdnZ r):Ab Tryz.prog 89 [.d (Lr r)] (fun x=>x=bv (Fp r)):=by
 obtain⟨hr,hs,he⟩:=hz
 have bad:r.all atV=false→Fp r=false:=fun h=>by unfold Fp;rw[h];simp
 refine acQ 24 Tryz.func89 rfl rfl fun _ _ _=> ?_
 (all_goals(conv=>whnf))
 refine A4 (fun i:Nat=>i≤r.length∧(r.take i).all atV=true) (fun i=>r.length-i) (fun i=>⟨[(0,.d (Lr r)),(3,iv i)],[],[]⟩) 0 ⟨by omega,rfl⟩ leQ ?_
 rintro i ⟨hi,ha⟩
 by_cases hik:i<r.length
 ·have gi:decide ((i:Int)<r.length)=true:=decide_eq_true (by omega)
  obtain⟨x,hg⟩:∃p,r[i]?=some p:=⟨_,Ar hik⟩
  have hx:=hs x (Bl hg)
  have hV:=cD x (by have:=hx.o;omega) (by have:=hx.v;omega)
  cases h1:atV x
  ·rw[h1] at hV
   rw[bad (by
    cases hh:r.all atV with
    |false=>rfl
    |true=>rw[List.all_eq_true.1 hh x (Bl hg)] at h1;cases h1)]
   (repeat'((conv=>whnf);first|refine zP ?_|refine Ac ?_|refine NIdx.tab (fun _=>rfl) hg ?_|refine Aa hV Fg ?_|exact zE))
  ·rw[h1] at hV
   (repeat'((conv=>whnf);first|refine zP ?_|refine Af ?_|refine NIdx.tab (fun _=>rfl) hg ?_|refine Aa hV Fg ?_|(with_reducible refine NInt.i64 ?_)));(all_goals(conv=>whnf))
   refine⟨i+1,⟨by omega,H2 atV hg h1 ha⟩,by omega,?_⟩
   exact leQ
 ·have gi:decide ((i:Int)<r.length)=false:=decide_eq_false (by omega)
  obtain rfl:i=r.length:=by omega
  rw[List.take_length] at ha
  have hP:=Ut r ⟨hr,hs,he⟩ ha
  have hO:=Xt (r.map atE) (by rw[List.length_map];omega) (fun p hp=>by
   obtain⟨a,ha,rfl⟩:=List.mem_map.1 hp
   have:=Yn (hs a ha);have:=(hs a ha).o;have:=(hs a ha).v;omega)
  have e:Fp r=(!r.isEmpty&&Gi (r.map atE)):=by unfold Fp;rw[ha,Bool.true_and]
  rw[e]
  by_cases h0:r.length>0
  ·have g0:decide ((r.length:Int)>0)=true:=decide_eq_true (by omega)
   rw[show r.isEmpty=false by cases r<;>simp at h0⊢]
   (repeat'((conv=>whnf);first|refine zP ?_|refine zN ?_|refine Ac ?_|refine Aa hP Fg ?_|refine Aa hO Fg ?_|exact zE))
  ·have g0:decide ((r.length:Int)>0)=false:=decide_eq_false (by omega)
   rw[show r.isEmpty=true by cases r<;>simp at h0⊢]
   (repeat'((conv=>whnf);first|refine zN ?_|refine Af ?_|exact zE))
theorem nZ (r:List Att) (hz:rdnZ r):Ab Tryz.prog 99 [.d (Lr r)] (fun x=>x=if Fp r=true then .tup [Be 0 5 (Cu r),iv 0] else .tup [Bc,iv 8]):=by
 have hV:=Wt r hz
 cases h:Fp r
 ·rw[if_neg (by simp)]
  rw[h] at hV
  refine acQ 10 Tryz.func99 rfl rfl fun _ _ _=> ?_
  (repeat'((conv=>whnf);first|refine Ac ?_|refine Aa hV Fg ?_|exact zE))
 ·rw[if_pos rfl]
  rw[h] at hV
  have hP:=Ut r hz (by unfold Fp at h;simp at h;simp;exact h.2.1)
  have hU:Ab Tryz.prog 34 [cv 49,.d (C7 (r.map atE))] (fun x=>x=Be 0 5 (Cu r)):=F6 49 (r.map atE) (by rw[List.length_map];have:=hz.l;omega) (by have:=hz.e;omega)
  refine acQ 10 Tryz.func99 rfl rfl fun _ _ _=> ?_
  (repeat'((conv=>whnf);first|refine Af ?_|refine Aa hV Fg ?_|refine Aa hP Fg ?_|refine Aa hU Fg ?_|exact zE))
theorem cF (n:List (List Att)) (hn:nmZ n):Ab Tryz.prog 63 [.d (Gs n)] (fun x=>x=bv (nmV n)):=by
 obtain⟨hr,hs,-⟩:=hn
 unfold nmV
 refine acQ 16 Tryz.func63 rfl rfl fun _ _ _=> ?_
 (all_goals(conv=>whnf))
 refine A4 (fun i:Nat=>i≤n.length∧(n.take i).all Fp=true) (fun i=>n.length-i) (fun i=>⟨[(0,.d (Gs n)),(3,iv i)],[],[]⟩) 0 ⟨by omega,rfl⟩ leQ ?_
 rintro i ⟨hi,ha⟩
 by_cases hik:i<n.length
 ·have gi:decide ((i:Int)<n.length)=true:=decide_eq_true (by omega)
  obtain⟨x,hg⟩:∃p,n[i]?=some p:=⟨_,Ar hik⟩
  have hx:=hs x (Bl hg)
  have hV:=Wt x hx
  cases h1:Fp x
  ·rw[h1] at hV
   rw[show n.all Fp=false by
    cases hh:n.all Fp with
    |false=>rfl
    |true=>rw[List.all_eq_true.1 hh x (Bl hg)] at h1;cases h1]
   (repeat'((conv=>whnf);first|refine zP ?_|refine Ac ?_|refine NIdx.tab (fun _=>rfl) hg ?_|refine Aa hV Fg ?_|exact zE))
  ·rw[h1] at hV
   (repeat'((conv=>whnf);first|refine zP ?_|refine Af ?_|refine NIdx.tab (fun _=>rfl) hg ?_|refine Aa hV Fg ?_|(with_reducible refine NInt.i64 ?_)));(all_goals(conv=>whnf))
   refine⟨i+1,⟨by omega,H2 Fp hg h1 ha⟩,by omega,?_⟩
   exact leQ
 ·have gi:decide ((i:Int)<n.length)=false:=decide_eq_false (by omega)
  obtain rfl:i=n.length:=by omega
  rw[List.take_length] at ha
  rw[ha]
  (repeat'((conv=>whnf);refine zN ?_));(all_goals(conv=>whnf))
  all_goals exact zE
theorem uQ (n:List (List Att)) (hn:nmZ n):Ab Tryz.prog 75 [.d (Gs n)] (fun x=>x=if nmV n=true then .tup [Be 0 5 (nmE n),iv 0] else .tup [Bc,iv 8]):=by
 have hV:=cF n hn
 obtain⟨hr,hs,hE⟩:=hn
 cases h:nmV n
 ·rw[if_neg (by simp)]
  rw[h] at hV
  refine acQ 31 Tryz.func75 rfl rfl fun _ _ _=> ?_
  (repeat'((conv=>whnf);first|refine Ac ?_|refine Aa hV Fg ?_|exact zE))
 ·rw[if_pos rfl]
  rw[h] at hV
  have hU:Ab Tryz.prog 34 [cv 48,.d (C7 (n.map Cu))] (fun x=>x=Be 0 5 (nmE n)):=F6 48 (n.map Cu) (by rw[List.length_map];omega) (by omega)
  refine acQ 31 Tryz.func75 rfl rfl fun _ _ _=> ?_
  (repeat'((conv=>whnf);first|refine Af ?_|refine Aa hV Fg ?_));(all_goals(conv=>whnf))
  refine Bg [.s 4 1 22] (fun i:Nat=>i≤n.length) (fun i=>n.length-i) (fun i=>⟨[(0,.d (Gs n)),(4,C9 4 1 22 Fe ((n.take i).map Cu)),(5,iv i)],[],[(4,(((n.take i).map Cu).length,1,22))]⟩) 0 (by omega) leQ ?_
  rintro i hi
  have hml:((n.take i).map Cu).length≤100000:=by rw[List.length_map,Am];omega
  by_cases hik:i<n.length
  ·have gi:decide ((i:Int)<n.length)=true:=decide_eq_true (by omega)
   obtain⟨x,hg⟩:∃p,n[i]?=some p:=⟨_,Ar hik⟩
   have hx:=hs x (Bl hg)
   have hM:=nZ x hx
   rw[if_pos (List.all_eq_true.1 h x (Bl hg))] at hM
   have hs1:=Gm Cu hg
   generalize Cu x=e at hM hs1
   (repeat'((conv=>whnf);first|refine zP ?_|refine NIdx.tab (fun _=>rfl) hg ?_|refine Aa hM Fg ?_|refine A9 Fe e ?_|(with_reducible refine NInt.i64 ?_)));(all_goals(conv=>whnf))
   refine⟨i+1,by omega,by omega,?_⟩
   rw[hs1]
   exact leQ
  ·have gi:decide ((i:Int)<n.length)=false:=decide_eq_false (by omega)
   obtain rfl:i=n.length:=by omega
   rw[List.take_length]
   (repeat'((conv=>whnf);first|refine zN ?_|refine Aa hU Fg ?_|exact zE))
theorem oA (t:Tr) (hn:t.ks.length≤100000) (hk:∀k∈t.ks,k.at):Ab Tryz.prog 143 [trF t] (fun r=>r= .d (fY (Gq t))):=by
 obtain⟨c,n,k,b,ks⟩:=t
 rw[Ca]
 unfold Gq
 simp only[Tr.ks] at hn hk⊢
 refine acQ 22 Tryz.func143 rfl rfl fun _ _ _=> ?_
 (all_goals(conv=>whnf))
 refine Bg [.s 3 2 131] (fun i:Nat=>i≤ks.length) (fun i=>ks.length-i) (fun i=>⟨[(1,.ptr 1 0),(3,C9 3 2 131 atU ((ks.take i).map Pl)),(4,iv i)],[(1,[iv c,iv n,bv k,.d (Ag false b),.d (.sl false ks.length 5 (Tr.cellss false ks))])],[(3,(((ks.take i).map Pl).length,2,131))]⟩) 0 (by omega) leQ ?_
 rintro i hi
 have hml:((ks.take i).map Pl).length≤100000:=by rw[List.length_map,Am];omega
 by_cases hik:i<ks.length
 ·have gi:decide ((i:Int)<ks.length)=true:=decide_eq_true (by omega)
  obtain⟨x,hg⟩:∃p,ks[i]?=some p:=⟨_,Ar hik⟩
  have hR:=uO x (hk x (Bl hg))
  have hs:=Gm Pl hg
  generalize Pl x=a at hR hs
  obtain⟨c',n',k',b',ks'⟩:=x
  rw[Ca] at hR
  (repeat'((conv=>whnf);first|refine zP ?_|(refine Fd hg ?_)|refine Aa hR Fg ?_|refine A9 atU a ?_|(with_reducible refine NInt.i64 ?_)));(all_goals(conv=>whnf))
  refine⟨i+1,by omega,by omega,?_⟩
  rw[hs]
  exact leQ
 ·have gi:decide ((i:Int)<ks.length)=false:=decide_eq_false (by omega)
  obtain rfl:i=ks.length:=by omega
  rw[List.take_length]
  (repeat'((conv=>whnf);refine zN ?_));(all_goals(conv=>whnf))
  all_goals exact zE
structure Tr.nm (t:Tr):Prop where
 l:t.ks.length≤100000
 k:∀k∈t.ks,k.ks.length≤100000∧∀j∈k.ks,j.at
theorem uR (t:Tr) (ht:t.nm):Ab Tryz.prog 114 [trF t] (fun r=>r= .d (Nm (Mb t))):=by
 obtain⟨hn,hk⟩:=ht
 obtain⟨c,n,k,b,ks⟩:=t
 rw[Ca]
 unfold Mb
 simp only[Tr.ks] at hn hk⊢
 refine acQ 22 Tryz.func114 rfl rfl fun _ _ _=> ?_
 (all_goals(conv=>whnf))
 refine Bg [.s 3 1 129] (fun i:Nat=>i≤ks.length) (fun i=>ks.length-i) (fun i=>⟨[(1,.ptr 1 0),(3,C9 3 1 129 Rb ((ks.take i).map Gq)),(4,iv i)],[(1,[iv c,iv n,bv k,.d (Ag false b),.d (.sl false ks.length 5 (Tr.cellss false ks))])],[(3,(((ks.take i).map Gq).length,1,129))]⟩) 0 (by omega) leQ ?_
 rintro i hi
 have hml:((ks.take i).map Gq).length≤100000:=by rw[List.length_map,Am];omega
 by_cases hik:i<ks.length
 ·have gi:decide ((i:Int)<ks.length)=true:=decide_eq_true (by omega)
  obtain⟨x,hg⟩:∃p,ks[i]?=some p:=⟨_,Ar hik⟩
  obtain⟨h1,h2⟩:=hk x (Bl hg)
  have hR:=oA x h1 h2
  have hs:=Gm Gq hg
  generalize Gq x=a at hR hs
  obtain⟨c',n',k',b',ks'⟩:=x
  rw[Ca] at hR
  (repeat'((conv=>whnf);first|refine zP ?_|(refine Fd hg ?_)|refine Aa hR Fg ?_|refine A9 Rb a ?_|(with_reducible refine NInt.i64 ?_)));(all_goals(conv=>whnf))
  refine⟨i+1,by omega,by omega,?_⟩
  rw[hs]
  exact leQ
 ·have gi:decide ((i:Int)<ks.length)=false:=decide_eq_false (by omega)
  obtain rfl:i=ks.length:=by omega
  rw[List.take_length]
  (repeat'((conv=>whnf);refine zN ?_));(all_goals(conv=>whnf))
  all_goals exact zE
structure Att.eqs (a:Att):Prop where
 v:a.val.length≤1000000000
def uS (r:List Att):Prop:=r.length≤1000000∧∀a∈r,a.eqs
def zX (n:List (List Att)):Prop:=n.length≤1000000∧∀r∈n,uS r
structure Gn.eqs (g:Gn):Prop where
 b:g.by'.length≤1000000000
 n:zX g.nm
theorem DK (a b:Att):decide (a=b)=(a.oid==b.oid&&a.val==b.val):=by
 obtain⟨o,v⟩:=a;obtain⟨o',v'⟩:=b
 rw[Bool.eq_iff_iff];simp
theorem FU (a b:Gn):decide (a=b)=(a.k==b.k&&(a.oid==b.oid&&(a.tx==b.tx&&(a.by'==b.by'&&(decide (a.nm=b.nm)&&((a.ak==b.ak&&a.av==b.av)&&(a.pk==b.pk&&a.pv==b.pv))))))):=by
 obtain⟨k,o,t,b1,n,ak,av,pk,pv⟩:=a;obtain⟨k',o',t',b1',n',ak',av',pk',pv'⟩:=b
 rw[Bool.eq_iff_iff];simp[and_assoc]
theorem Gr {p:Prop} (h:p:=by first|rfl|(simp only[AV.gives,AV.ren,AV.give,D.un,D.uns,Al,Ak,List.nil_append,List.append_nil,List.cons_append,As,A0,Bb,A5,A2,Ba,Bi];first|done|rfl)):p:=h
theorem zY (a b:Att) (ha:a.eqs) (hb:b.eqs):Ab Tryz.prog 139 [atA a,atA b] (fun r=>r=bv (decide (a=b))):=by
 have hB:=C4 false false a.val b.val ha.v hb.v
 rw[DK]
 cases h:(a.oid==b.oid)
 ·refine acQ 17 Tryz.func139 rfl rfl fun _ _ _=> ?_
  (repeat'((conv=>whnf);first|refine zN ?_|refine Af ?_|exact zE))
 ·rw[Bool.true_and]
  refine acQ 17 Tryz.func139 rfl rfl fun _ _ _=> ?_
  (repeat'((conv=>whnf);first|refine zP ?_|refine Ac ?_|refine Aa hB Gr ?_|exact zE))
theorem zZ (a b:List Att) (ha:a.length≤1000000∧∀p∈a,p.eqs) (hb:b.length≤1000000∧∀p∈b,p.eqs):Ab Tryz.prog 108 [.d (Lr a),.d (Lr b)] (fun r=>r=bv (decide (a=b))):=by
 obtain⟨ha,hpa⟩:=ha
 obtain⟨hb,hpb⟩:=hb
 refine acQ 33 Tryz.func108 rfl rfl fun _ _ _=> ?_
 (all_goals(conv=>whnf))
 refine A4 (fun i:Nat=>i≤a.length∧i≤b.length∧a.take i=b.take i) (fun i=>a.length-i) (fun i=>⟨[(0,.d (Lr a)),(1,.d (Lr b)),(5,iv i)],[],[]⟩) 0 ⟨by omega,by omega,rfl⟩ leQ ?_
 rintro i ⟨hi,hj,ht⟩
 by_cases hik:i<a.length∧i<b.length
 ·obtain⟨k1,k2⟩:=hik
  have g1:decide ((i:Int)<a.length)=true:=decide_eq_true (by omega)
  have g2:decide ((i:Int)<b.length)=true:=decide_eq_true (by omega)
  obtain⟨x,hx⟩:∃p,a[i]?=some p:=⟨_,Ar k1⟩
  obtain⟨y,hy⟩:∃p,b[i]?=some p:=⟨_,Ar k2⟩
  have hB:=zY x y (hpa x (Bl hx)) (hpb y (Bl hy))
  by_cases hq:x=y
  ·rw[decide_eq_true hq] at hB
   (repeat'((conv=>whnf);first|refine zP ?_|refine Ac ?_|refine Af ?_|refine NIdx.tab (fun _=>rfl) hx ?_|refine NIdx.tab (fun _=>rfl) hy ?_|refine Aa hB Gr ?_|(with_reducible refine NInt.i64 ?_)|refine zF ?_));(all_goals(conv=>whnf))
   refine⟨i+1,⟨by omega,by omega,Yg ht hx (hq▸hy)⟩,by omega,?_⟩
   exact leQ
  ·rw[decide_eq_false hq] at hB
   rw[decide_eq_false (tF hx hy hq)]
   (repeat'((conv=>whnf);first|refine zP ?_|refine Ac ?_|refine NIdx.tab (fun _=>rfl) hx ?_|refine NIdx.tab (fun _=>rfl) hy ?_|refine Aa hB Gr ?_|refine zF ?_|exact zE))
 ·by_cases he:a.length=b.length
  ·have:=fU ht hik hi hj he
   subst this
   have g1:decide ((i:Int)<a.length)=false:=decide_eq_false (by omega)
   rw[decide_eq_true rfl]
   (repeat'((conv=>whnf);first|refine zN ?_|refine Af ?_));(all_goals(conv=>whnf))
   all_goals(refine A6 ?_;(repeat'(first|refine And.intro ?_ ?_|exact rfl));(all_goals(conv=>whnf)))
   all_goals simp
  ·rw[decide_eq_false (fun e=>he (by rw[e]))]
   have g3:((a.length:Int)==b.length)=false:=by rw[beq_eq_false_iff_ne];omega
   by_cases k1:i<a.length
   ·have g1:decide ((i:Int)<a.length)=true:=decide_eq_true (by omega)
    have g2:decide ((i:Int)<b.length)=false:=decide_eq_false (by omega)
    (repeat'((conv=>whnf);first|refine zP ?_|refine zN ?_|refine Ac ?_));(all_goals(conv=>whnf))
    all_goals(refine A6 ?_;(repeat'(first|refine And.intro ?_ ?_|exact rfl));(all_goals(conv=>whnf)))
    all_goals exact g3
   ·have g1:decide ((i:Int)<a.length)=false:=decide_eq_false (by omega)
    (repeat'((conv=>whnf);first|refine zN ?_|refine Af ?_));(all_goals(conv=>whnf))
    all_goals(refine A6 ?_;(repeat'(first|refine And.intro ?_ ?_|exact rfl));(all_goals(conv=>whnf)))
    all_goals exact g3
theorem uT (a b:List (List Att)) (ha:a.length≤1000000∧∀p∈a,uS p) (hb:b.length≤1000000∧∀p∈b,uS p):Ab Tryz.prog 80 [.d (Gs a),.d (Gs b)] (fun r=>r=bv (decide (a=b))):=by
 obtain⟨ha,hpa⟩:=ha
 obtain⟨hb,hpb⟩:=hb
 refine acQ 33 Tryz.func80 rfl rfl fun _ _ _=> ?_
 (all_goals(conv=>whnf))
 refine A4 (fun i:Nat=>i≤a.length∧i≤b.length∧a.take i=b.take i) (fun i=>a.length-i) (fun i=>⟨[(0,.d (Gs a)),(1,.d (Gs b)),(5,iv i)],[],[]⟩) 0 ⟨by omega,by omega,rfl⟩ leQ ?_
 rintro i ⟨hi,hj,ht⟩
 by_cases hik:i<a.length∧i<b.length
 ·obtain⟨k1,k2⟩:=hik
  have g1:decide ((i:Int)<a.length)=true:=decide_eq_true (by omega)
  have g2:decide ((i:Int)<b.length)=true:=decide_eq_true (by omega)
  obtain⟨x,hx⟩:∃p,a[i]?=some p:=⟨_,Ar k1⟩
  obtain⟨y,hy⟩:∃p,b[i]?=some p:=⟨_,Ar k2⟩
  have hB:=zZ x y (hpa x (Bl hx)) (hpb y (Bl hy))
  by_cases hq:x=y
  ·rw[decide_eq_true hq] at hB
   (repeat'((conv=>whnf);first|refine zP ?_|refine Ac ?_|refine Af ?_|refine NIdx.tab (fun _=>rfl) hx ?_|refine NIdx.tab (fun _=>rfl) hy ?_|refine Aa hB Gr ?_|(with_reducible refine NInt.i64 ?_)|refine zF ?_));(all_goals(conv=>whnf))
   refine⟨i+1,⟨by omega,by omega,Yg ht hx (hq▸hy)⟩,by omega,?_⟩
   exact leQ
  ·rw[decide_eq_false hq] at hB
   rw[decide_eq_false (tF hx hy hq)]
   (repeat'((conv=>whnf);first|refine zP ?_|refine Ac ?_|refine NIdx.tab (fun _=>rfl) hx ?_|refine NIdx.tab (fun _=>rfl) hy ?_|refine Aa hB Gr ?_|refine zF ?_|exact zE))
 ·by_cases he:a.length=b.length
  ·have:=fU ht hik hi hj he
   subst this
   have g1:decide ((i:Int)<a.length)=false:=decide_eq_false (by omega)
   rw[decide_eq_true rfl]
   (repeat'((conv=>whnf);first|refine zN ?_|refine Af ?_));(all_goals(conv=>whnf))
   all_goals(refine A6 ?_;(repeat'(first|refine And.intro ?_ ?_|exact rfl));(all_goals(conv=>whnf)))
   all_goals simp
  ·rw[decide_eq_false (fun e=>he (by rw[e]))]
   have g3:((a.length:Int)==b.length)=false:=by rw[beq_eq_false_iff_ne];omega
   by_cases k1:i<a.length
   ·have g1:decide ((i:Int)<a.length)=true:=decide_eq_true (by omega)
    have g2:decide ((i:Int)<b.length)=false:=decide_eq_false (by omega)
    (repeat'((conv=>whnf);first|refine zP ?_|refine zN ?_|refine Ac ?_));(all_goals(conv=>whnf))
    all_goals(refine A6 ?_;(repeat'(first|refine And.intro ?_ ?_|exact rfl));(all_goals(conv=>whnf)))
    all_goals exact g3
   ·have g1:decide ((i:Int)<a.length)=false:=decide_eq_false (by omega)
    (repeat'((conv=>whnf);first|refine zN ?_|refine Af ?_));(all_goals(conv=>whnf))
    all_goals(refine A6 ?_;(repeat'(first|refine And.intro ?_ ?_|exact rfl));(all_goals(conv=>whnf)))
    all_goals exact g3
theorem Ds (a b:Gn) (ha:a.eqs) (hb:b.eqs):Ab Tryz.prog 56 [gnA a,gnA b] (fun r=>r=bv (decide (a=b))):=by
 have hB:=C4 false false a.by' b.by' ha.b hb.b
 have hN:=uT a.nm b.nm ha.n hb.n
 rw[FU]
 generalize decide (a.nm=b.nm)=en at hN⊢
 obtain⟨k,o,t,b1,n,ak,av,pk,pv⟩:=a;obtain⟨k',o',t',b1',n',ak',av',pk',pv'⟩:=b
 simp only at hB hN⊢
 cases h1:(k==k')
 ·rw[Bool.false_and]
  refine acQ 52 Tryz.func56 rfl rfl fun _ _ _=> ?_
  (repeat'((conv=>whnf);first|refine zN ?_|refine Af ?_|exact zE))
 rw[Bool.true_and]
 cases h2:(o==o')
 ·rw[Bool.false_and]
  refine acQ 52 Tryz.func56 rfl rfl fun _ _ _=> ?_
  (repeat'((conv=>whnf);first|refine zP ?_|refine zN ?_|refine Ac ?_|refine Af ?_|exact zE))
 rw[Bool.true_and]
 cases h3:(t==t')
 ·rw[Bool.false_and]
  refine acQ 52 Tryz.func56 rfl rfl fun _ _ _=> ?_
  (repeat'((conv=>whnf);first|refine zP ?_|refine zN ?_|refine Ac ?_|refine Af ?_|exact zE))
 rw[Bool.true_and]
 cases h4:(b1==b1')
 ·rw[h4] at hB
  rw[Bool.false_and]
  refine acQ 52 Tryz.func56 rfl rfl fun _ _ _=> ?_
  (repeat'((conv=>whnf);first|refine zP ?_|refine Ac ?_|refine Af ?_|refine Aa hB Gr ?_|exact zE))
 rw[h4] at hB
 rw[Bool.true_and]
 cases en with
 |false=>
  rw[Bool.false_and]
  refine acQ 52 Tryz.func56 rfl rfl fun _ _ _=> ?_
  (repeat'((conv=>whnf);first|refine zP ?_|refine Ac ?_|refine Af ?_|refine Aa hB Gr ?_|refine Aa hN Gr ?_|exact zE))
 |true=>
  rw[Bool.true_and]
  cases h6:(ak==ak'&&av==av')
  ·rw[Bool.false_and]
   refine acQ 52 Tryz.func56 rfl rfl fun _ _ _=> ?_
   (repeat'((conv=>whnf);first|refine zP ?_|refine zN ?_|refine Ac ?_|refine Af ?_|refine Aa hB Gr ?_|refine Aa hN Gr ?_|refine An (Dv rfl rfl (ltN rfl) rfl rfl) ?_|exact zE))
  ·rw[Bool.true_and]
   refine acQ 52 Tryz.func56 rfl rfl fun _ _ _=> ?_
   (repeat'((conv=>whnf);first|refine zP ?_|refine Ac ?_|refine Aa hB Gr ?_|refine Aa hN Gr ?_|refine An (Dv rfl rfl (ltN rfl) rfl rfl) ?_|exact zE))
theorem Yy (a b:List Gn) (ha:a.length≤1000000∧∀p∈a,p.eqs) (hb:b.length≤1000000∧∀p∈b,p.eqs):Ab Tryz.prog 41 [.d (Hl a),.d (Hl b)] (fun r=>r=bv (decide (a=b))):=by
 obtain⟨ha,hpa⟩:=ha
 obtain⟨hb,hpb⟩:=hb
 refine acQ 33 Tryz.func41 rfl rfl fun _ _ _=> ?_
 (all_goals(conv=>whnf))
 refine A4 (fun i:Nat=>i≤a.length∧i≤b.length∧a.take i=b.take i) (fun i=>a.length-i) (fun i=>⟨[(0,.d (Hl a)),(1,.d (Hl b)),(5,iv i)],[],[]⟩) 0 ⟨by omega,by omega,rfl⟩ leQ ?_
 rintro i ⟨hi,hj,ht⟩
 by_cases hik:i<a.length∧i<b.length
 ·obtain⟨k1,k2⟩:=hik
  have g1:decide ((i:Int)<a.length)=true:=decide_eq_true (by omega)
  have g2:decide ((i:Int)<b.length)=true:=decide_eq_true (by omega)
  obtain⟨x,hx⟩:∃p,a[i]?=some p:=⟨_,Ar k1⟩
  obtain⟨y,hy⟩:∃p,b[i]?=some p:=⟨_,Ar k2⟩
  have hB:=Ds x y (hpa x (Bl hx)) (hpb y (Bl hy))
  by_cases hq:x=y
  ·rw[decide_eq_true hq] at hB
   (repeat'((conv=>whnf);first|refine zP ?_|refine Ac ?_|refine Af ?_|refine NIdx.tab (fun _=>rfl) hx ?_|refine NIdx.tab (fun _=>rfl) hy ?_|refine Aa hB Gr ?_|(with_reducible refine NInt.i64 ?_)|refine zF ?_));(all_goals(conv=>whnf))
   refine⟨i+1,⟨by omega,by omega,Yg ht hx (hq▸hy)⟩,by omega,?_⟩
   exact leQ
  ·rw[decide_eq_false hq] at hB
   rw[decide_eq_false (tF hx hy hq)]
   (repeat'((conv=>whnf);first|refine zP ?_|refine Ac ?_|refine NIdx.tab (fun _=>rfl) hx ?_|refine NIdx.tab (fun _=>rfl) hy ?_|refine Aa hB Gr ?_|refine zF ?_|exact zE))
 ·by_cases he:a.length=b.length
  ·have:=fU ht hik hi hj he
   subst this
   have g1:decide ((i:Int)<a.length)=false:=decide_eq_false (by omega)
   rw[decide_eq_true rfl]
   (repeat'((conv=>whnf);first|refine zN ?_|refine Af ?_));(all_goals(conv=>whnf))
   all_goals(refine A6 ?_;(repeat'(first|refine And.intro ?_ ?_|exact rfl));(all_goals(conv=>whnf)))
   all_goals simp
  ·rw[decide_eq_false (fun e=>he (by rw[e]))]
   have g3:((a.length:Int)==b.length)=false:=by rw[beq_eq_false_iff_ne];omega
   by_cases k1:i<a.length
   ·have g1:decide ((i:Int)<a.length)=true:=decide_eq_true (by omega)
    have g2:decide ((i:Int)<b.length)=false:=decide_eq_false (by omega)
    (repeat'((conv=>whnf);first|refine zP ?_|refine zN ?_|refine Ac ?_));(all_goals(conv=>whnf))
    all_goals(refine A6 ?_;(repeat'(first|refine And.intro ?_ ?_|exact rfl));(all_goals(conv=>whnf)))
    all_goals exact g3
   ·have g1:decide ((i:Int)<a.length)=false:=decide_eq_false (by omega)
    (repeat'((conv=>whnf);first|refine zN ?_|refine Af ?_));(all_goals(conv=>whnf))
    all_goals(refine A6 ?_;(repeat'(first|refine And.intro ?_ ?_|exact rfl));(all_goals(conv=>whnf)))
    all_goals exact g3
def Tr.isB (c n:Nat) (k:Bool):Tr→Bool
 | .mk c' n' k' _ _=>c'==c&&k'==k&&n'==n
theorem AA (t:Tr) (c n:Nat) (k:Bool):Ab Tryz.prog 115 [trF t,iv c,bv k,iv n] (fun r=>r=bv (t.isB c n k)):=by
 obtain⟨c',n',k',b,ks⟩:=t
 rw[Ca]
 refine acQ 25 Tryz.func115 rfl rfl fun _ _ _=> ?_
 (repeat'((conv=>whnf);first|refine Ac ?_|refine Af ?_|(refine NBr.mk (fun hc=> ?_) (fun hc=> ?_)<;>(have hcP:=hc;(try simp only[zS] at hcP)<;>first|(exfalso;omega)|skip))));(all_goals(conv=>whnf))
 all_goals(refine Bz rfl (?_:_=_);try simp only[AV.dat])
 all_goals
  simp only[Ft] at*
  simp only[Tr.isB, *]
  first|rfl|(simp;done)
def okT (d:Nat) (p:List UInt8) (t:Tr):Prop:=One d p∧trD d p=t
theorem okT.up {d e:Nat} {p:List UInt8} {t:Tr} (h:okT d p t) (hd:d≤e):okT e p t:=by
 obtain⟨h1,h2⟩:=h.1.mono hd
 exact⟨h1,h2.trans h.2⟩
theorem okT.of {d:Nat} {p:List UInt8} (h:One d p):okT d p (trD d p):=⟨h,rfl⟩
theorem okT.prim (d:Nat) {c n:Nat} (l:List UInt8) (hc:c≤3) (hn:n≤30) (hl:l.length≤2147483600):okT (d+1) (Ai c n false l) (.mk c n false l []):=L5 l hc hn hl
theorem okT.con1 {d c n:Nat} {p:List UInt8} {t:Tr} (hc:c≤3) (hn:n≤30) (h:okT d p t) (hl:p.length≤2000000000):okT (d+1) (Ai c n true p) (.mk c n true [] [t]):=by
 have:=uJ hc hn h.1 hl
 rw[h.2] at this;exact this
theorem okT.con2 {d c n:Nat} {p q:List UInt8} {t u:Tr} (hc:c≤3) (hn:n≤30) (h1:okT d p t) (h2:okT d q u) (hl:p.length+q.length≤2000000000):okT (d+1) (Ai c n true (p++q)) (.mk c n true [] [t,u]):=by
 have:=cC hc hn h1.1 h2.1 hl
 rw[h1.2,h2.2] at this;exact this
theorem Wu (n:Nat):1≤(E4 n).length:=by
 unfold E4
 split
 ·rename_i h;rw[Cz (by omega)];simp
 ·simp
theorem oB {p:List UInt8} {c n:Nat} (h:Ea (Ai c n true p)=true) (hc:c≤3) (hn:n≤30) (hl:p.length≤2147483600):∃ks,okT 16 (Ai c n true p) (.mk c n true [] ks)∧Tr.encs ks=p:=by
 have ho:=L4 h
 obtain⟨e1,e2⟩:=ho.enc
 have hsh:=uI (t:=trD 16 (Ai c n true p)) ho
 generalize ht:trD 16 (Ai c n true p)=t at e1 e2 hsh
 obtain⟨c',n',k',v,ks⟩:=t
 rw[Tr.ok] at e1
 rw[Tr.enc] at e2
 have hlen:(v++Tr.encs ks).length≤2147483647:=by
  have:=congrArg List.length e2
  unfold Ai at this
  rw[Ew,Ew] at this
  have h1:=Ih p.length (by omega)
  have h2:1≤(E4 (v++Tr.encs ks).length).length:=Wu _
  omega
 have hj:=Tv.inj (t:=⟨c',n',k',v++Tr.encs ks⟩) (u:=⟨c,n,true,p⟩) (r:=[]) (s:=[]) ⟨e1.1,e1.2.1,hlen⟩ ⟨hc,hn,by show p.length≤_;omega⟩ (by rw[List.append_nil,List.append_nil];exact e2)
 have h2:=hj.1
 simp only[Tv.mk.injEq] at h2
 obtain⟨rfl,rfl,rfl,h3⟩:=h2
 have hv:v=[]:=hsh rfl
 subst hv
 exact⟨ks,⟨ho,ht⟩,h3⟩
theorem uU {g:Gn} (h:gnW g=true) (hs:g.mid):∃t:Tr,okT 20 (gnE g) t∧Bn t=g∧t.c=2∧(t.n:Int)=g.k∧t.k=Dy g.k:=by
 obtain⟨ha,hf,⟨c,hc⟩,hp⟩:=(M3 g).1 h
 obtain⟨n,hn,hk⟩:=N9 hc
 have hl:=hs.c
 rw[hc] at hl
 have hl:c.length≤700000:=hl
 have e:gnE g=Ai 2 n (Dy n) c:=by unfold gnE;rw[hc,hk];rfl
 have hr:=jM hk ha hc hp hs.s
 rw[e]
 obtain⟨k,oid,tx,by',nm,ak,av,pk,pv⟩:=g
 have hsm:=hs.s
 obtain⟨s1,s2,s3,s4,s5,s6⟩:=hsm
 simp only at hk s1 s2 s3 s4 s5 s6
 subst hk
 rcases(by omega:n=0∨n=1∨n=2∨n=3∨n=4∨n=5∨n=6∨n=7∨n=8) with rfl|rfl|rfl|rfl|rfl|rfl|rfl|rfl|rfl
 ·
  obtain⟨o',b',e1,e2,e3⟩:=jJ (c:=c) (by omega) (by show(rdP 0 c).2=true;rw[hr])
  have e1:rdP 0 c=_:=e1
  rw[hr] at e1
  simp only[Prod.mk.injEq,Gn.mk.injEq,and_true] at e1
  obtain⟨-,rfl,rfl,rfl,rfl,rfl,rfl,rfl,rfl⟩:=e1
  have k1:=Ex oid
  have k2:=At 0 6 false (Bm oid) (by omega)
  have k3:=At 2 0 true by' (by omega)
  have ho:Ea by'=true:=hf
  have q1:=okT.prim 16 (c:=0) (n:=6) (Bm oid) (by omega) (by omega) (by omega)
  have q2:=okT.con1 (c:=2) (n:=0) (by omega) (by omega) (okT.of (L4 ho)) (by omega)
  have q3:=okT.con2 (c:=2) (n:=0) (by omega) (by omega) q1 q2 (by omega)
  rw[e3]
  refine⟨_,q3.up (by omega),?_,rfl,rfl,rfl⟩
  show(⟨0,odT (Bm oid),[],Tr.encs [trD 16 by'],[],0,[],0,[]⟩:Gn)=_
  rw[(Tl e2).1]
  have:Tr.encs [trD 16 by']=by':=by rw[Tr.encs,Tr.encs,List.append_nil,(L4 ho).enc.2]
  rw[this];rfl
 ·have q:=okT.prim 19 (c:=2) (n:=1) c (by omega) (by omega) (by omega)
  refine⟨_,q,?_,rfl,rfl,rfl⟩
  exact congrArg Prod.fst hr
 ·have q:=okT.prim 19 (c:=2) (n:=2) c (by omega) (by omega) (by omega)
  refine⟨_,q,?_,rfl,rfl,rfl⟩
  exact congrArg Prod.fst hr
 ·have hr':((⟨3,[],[],c,[],0,[],0,[]⟩:Gn),true)=_:=hr
  simp only[Prod.mk.injEq,Gn.mk.injEq,and_true] at hr'
  obtain⟨-,rfl,rfl,rfl,rfl,rfl,rfl,rfl,rfl⟩:=hr'
  have ho:Ea (Ai 2 3 true c)=true:=hf
  obtain⟨ks,q1,q2⟩:=oB ho (by omega) (by omega) (by omega)
  refine⟨_,q1.up (by omega),?_,rfl,rfl,rfl⟩
  show(⟨3,[],[],Tr.encs ks,[],0,[],0,[]⟩:Gn)=_
  rw[q2];rfl
 ·have hcc:(if nmV nm=true then some (nmE nm) else none)=some c:=hc
  by_cases hv:nmV nm=true
  ·rw[if_pos hv] at hcc
   obtain rfl:=Option.some.inj hcc
   obtain⟨a1,a2⟩:=DJ hv s4
   have q:=okT.con1 (c:=2) (n:=4) (by omega) (by omega) (okT.of a1) (by omega)
   refine⟨_,q,?_,rfl,rfl,rfl⟩
   rw[Dw] at ha
   obtain⟨b1,b2,b3,b4,b5⟩:=ha
   obtain rfl:oid=[]:=by simpa using b1
   obtain rfl:tx=[]:=by simpa using b2
   obtain rfl:by'=[]:=by simpa using b3
   obtain⟨⟨rfl,rfl⟩,rfl,rfl⟩:(ak=0∧av=[])∧pk=0∧pv=[]:=by simpa using b5
   show(⟨4,[],[],[],Mb (trD 19 (nmE nm)),0,[],0,[]⟩:Gn)=_
   rw[a2];rfl
  ·rw[if_neg hv] at hcc;cases hcc
 ·rw[Dw] at ha
  obtain⟨b1,b2,b3,b4,b5⟩:=ha
  obtain rfl:oid=[]:=by simpa using b1
  obtain rfl:tx=[]:=by simpa using b2
  obtain rfl:by'=[]:=by simpa using b3
  obtain rfl:nm=[]:=by simpa using b4
  have hcc:L9 ⟨5,[],[],[],[],ak,av,pk,pv⟩=some c:=hc
  have hpp:((zT ak av||fiB ak av)&&fiB pk pv)=true:=hp
  rw[Aw] at hpp
  have v2:=Kb hpp.2
  have l2:=Fx v2 s6
  obtain⟨p1,p2,p3⟩:=uL v2 s6
  have w2:=okT.con1 (c:=2) (n:=1) (by omega) (by omega) (okT.of p1) (by omega)
  have x2:=At 2 1 true (txE pk pv) (by omega)
  unfold L9 at hcc
  simp only at hcc
  cases hz:zT ak av
  ·rw[hz,Bool.false_or] at hpp
   have v1:=Kb hpp.1
   have l1:=Fx v1 s5
   obtain⟨a1,a2,a3⟩:=uL v1 s5
   have w1:=okT.con1 (c:=2) (n:=0) (by omega) (by omega) (okT.of a1) (by omega)
   have x1:=At 2 0 true (txE ak av) (by omega)
   rw[hz,v1,v2] at hcc
   have hcc:some (Ai 2 0 true (txE ak av)++Ai 2 1 true (txE pk pv))=some c:=hcc
   obtain rfl:=Option.some.inj hcc
   have q:=okT.con2 (c:=2) (n:=5) (by omega) (by omega) w1 w2 (by omega)
   refine⟨_,q.up (by omega),?_,rfl,rfl,rfl⟩
   show(⟨5,[],[],[],[],Nb (trD 1 (txE ak av)),Nc (trD 1 (txE ak av)),Nb (trD 1 (txE pk pv)),Nc (trD 1 (txE pk pv))⟩:Gn)=_
   rw[a2,a3,p2,p3];rfl
  ·obtain⟨rfl,rfl⟩:=Qm.1 hz
   rw[hz,v2] at hcc
   have hcc:some (Ai 2 1 true (txE pk pv))=some c:=hcc
   obtain rfl:=Option.some.inj hcc
   have q:=okT.con1 (c:=2) (n:=5) (by omega) (by omega) w2 (by omega)
   refine⟨_,q.up (by omega),?_,rfl,rfl,rfl⟩
   show(⟨5,[],[],[],[],0,[],Nb (trD 1 (txE pk pv)),Nc (trD 1 (txE pk pv))⟩:Gn)=_
   rw[p2,p3];rfl
 ·have q:=okT.prim 19 (c:=2) (n:=6) c (by omega) (by omega) (by omega)
  refine⟨_,q,?_,rfl,rfl,rfl⟩
  exact congrArg Prod.fst hr
 ·have q:=okT.prim 19 (c:=2) (n:=7) c (by omega) (by omega) (by omega)
  refine⟨_,q,?_,rfl,rfl,rfl⟩
  exact congrArg Prod.fst hr
 ·have q:=okT.prim 19 (c:=2) (n:=8) c (by omega) (by omega) (by omega)
  refine⟨_,q,?_,rfl,rfl,rfl⟩
  exact congrArg Prod.fst hr
theorem uV {d:Nat} {p:List UInt8} {t:Tr} (h:okT d p t) (hd:d≤60):D3 p=t:=by
 have h':=h.up hd
 have h1:rT 60 p=⟨[trD 60 p],p.length,0,0⟩:=h'.1
 unfold D3 Da
 rw[h1,M0 (by omega)]
 exact h'.2
end Go.Proofs.YtgamacmidohpfaaGreatDoor
