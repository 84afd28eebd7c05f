/- MR: the texts GenZ R11 R12 EqG T4 GenZ2, one behind the other. No condition but what each lemma says. -/
import Derived.Test.YtaoahmplnckhpaaGreatDoorMP
import Derived.Test.YtaoahmplnckhpaaGreatDoorMQ
set_option maxRecDepth 100000
set_option maxHeartbeats 16000000
namespace Go.Proofs.YtaoahmplnckhpaaGreatDoor
open Go.RowKit
def Tr.c:Tr→Nat
 | .mk c _ _ _ _=>c
def Tr.k:Tr→Bool
 | .mk _ _ k _ _=>k
theorem Wx {p:Prop} (h:p:=by first|rfl|(simp only[AV.gives,AV.ren,AV.give,D.un,D.uns,Ai,Am,List.nil_append,List.append_nil,List.cons_append,At,A5,Ka,C7,Be,Ub,Tr.cellss_un,Bm,A4,Ck];first|done|rfl)):p:=h
theorem Z6 (a:Att) (ho:a.oid.length≤3500000) (hv:a.val.length≤1000000000):Ac Tryz.prog 139 [atA a] (fun r=>r=bv (atV a)):=by
 have hV:=H8 a.oid ho
 have hO:=Ma a.val hv
 unfold atV
 cases h:E0 a.oid
 ·rw[h] at hV
  refine acQ 11 Tryz.func139 rfl rfl fun _ _ _=> ?_
  (repeat'((conv=>whnf);first|refine Ae ?_|refine Aa hV rfl ?_|exact zE))
 ·rw[h] at hV
  rw[Bool.true_and]
  refine acQ 11 Tryz.func139 rfl rfl fun _ _ _=> ?_
  (repeat'((conv=>whnf);first|refine Ab ?_|refine Aa hV rfl ?_|refine Aa hO Wx ?_|exact zE))
theorem sZ (a:Att) (ho:a.oid.length≤3500000) (hv:a.val.length≤100000000):Ac Tryz.prog 194 [atA a] (fun r=>r=if atV a=true then .tup [Cg 0 5 (atE a),iv 0] else .tup [Bj,iv 8]):=by
 have hV:=Z6 a ho (by omega)
 cases h:atV a
 ·rw[if_neg (by simp)]
  rw[h] at hV
  refine acQ 14 Tryz.func194 rfl rfl fun _ _ _=> ?_
  (repeat'((conv=>whnf);first|refine Ab ?_|refine Aa hV Wx ?_|exact zE))
 ·rw[if_pos rfl]
  rw[h] at hV
  have hO:=dR a.oid ho
  have k1:=Gm a.oid
  have k2:=A2 0 6 false (Cd a.oid) (by omega)
  have hP:=lF 48 [dQ a.oid,a.val] (by simp) (by simp[dQ];omega)
  rw[show M5 48 [dQ a.oid,a.val].flatten=atE a by simp only[List.flatten_cons,List.flatten_nil,List.append_nil];rfl] at hP
  have hP:Ac Tryz.prog 85 [cv 48,.d (Dz [dQ a.oid,a.val])] (fun r=>r=Cg 0 5 (atE a)):=hP
  generalize dQ a.oid=ob at hO hP
  refine acQ 14 Tryz.func194 rfl rfl fun _ _ _=> ?_
  (repeat'((conv=>whnf);first|refine Ae ?_|refine Aa hV Wx ?_|refine Aa hO rfl ?_|refine Aa hP Wx ?_|refine zF ?_|exact zE))
structure Tr.at (t:Tr):Prop where
 o:(t.kid 0).v.length≤30000
 v:∀k,t.ks[1]?=some k→k.ok∧k.enc.length≤900000000
theorem Uk (k:Int) (l:List UInt8) (hl:l.length≤16777216):Ac Tryz.prog 146 [txA k l] (fun r=>r=bv (fiB k l)):=by
 have hV:=Hx k l hl
 unfold fiB
 cases hv:An k l
 ·rw[hv] at hV
  clear hv
  refine acQ 19 Tryz.func146 rfl rfl fun _ _ _=> ?_
  (repeat'((conv=>whnf);first|refine Ab ?_|refine Aa hV rfl ?_|exact zE))
 ·have hk:¬Aq k<0:=by unfold An at hv;simp at hv;omega
  rw[hv] at hV
  clear hv
  cases l with
  |nil=>
   refine acQ 19 Tryz.func146 rfl rfl fun _ _ _=> ?_
   (repeat'((conv=>whnf);first|refine Ab ?_|refine Ae ?_|refine Aa hV rfl ?_|exact zE))
  |cons x r=>
   have g:(x::r==[])=false:=rfl
   rw[g]
   rcases Ef k hk with rfl|rfl|rfl|rfl|rfl|rfl|rfl
   all_goals
    refine acQ 19 Tryz.func146 rfl rfl fun _ _ _=> ?_
    (repeat'((conv=>whnf);first|refine zN ?_|refine Ab ?_|refine Ae ?_|refine Aa hV rfl ?_|exact zE))
theorem Mg {p:Prop} (h:p:=by first|rfl|(simp only[AV.gives,AV.ren,AV.give,D.un,D.uns,Ai,Am,List.nil_append,List.append_nil,List.cons_append,At,A5,Ka,C7,Be,Ub,Tr.cellss_un,Bm,A4,Ck,Cn,Bp,gR,Uf];first|done|rfl)):p:=h
theorem eF (r:List Att) (hz:rdnZ r) (hv:r.all atV=true):Ac Tryz.prog 141 [.d (Dm r)] (fun x=>x= .d (rW (r.map atE))):=by
 obtain⟨hr,hs,he⟩:=hz
 refine acQ 26 Tryz.func141 rfl rfl fun _ _ _=> ?_
 (all_goals(conv=>whnf))
 refine Bt [.s 3 1 33] (fun i:Nat=>i≤r.length) (fun i=>r.length-i) (fun i=>⟨[(0,.d (Dm r)),(3,C7 3 1 33 Jo ((r.take i).map atE)),(4,iv i)],[],[(3,(((r.take i).map atE).length,1,33))]⟩) 0 (by omega) leQ ?_
 rintro i hi
 have hml:((r.take i).map atE).length≤100000:=by rw[List.length_map,Al];omega
 by_cases hik:i<r.length
 ·have gi:decide ((i:Int)<r.length)=true:=decide_eq_true (by omega)
  obtain⟨x,hg⟩:∃p,r[i]?=some p:=⟨_,Ak hik⟩
  have hx:=hs x (Bk hg)
  have hM:=sZ x (by have:=hx.o;omega) (by have:=hx.v;omega)
  rw[if_pos (List.all_eq_true.1 hv x (Bk hg))] at hM
  have hs1:=No atE hg
  generalize atE x=e at hM hs1
  (repeat'((conv=>whnf);first|refine zP ?_|refine NIdx.tab (fun _=>rfl) hg ?_|refine Aa hM Mg ?_|refine A8 Jo e ?_|(with_reducible refine NInt.i64 ?_)));(all_goals(conv=>whnf))
  refine⟨i+1,by omega,by omega,?_⟩
  rw[hs1]
  exact leQ
 ·have gi:decide ((i:Int)<r.length)=false:=decide_eq_false (by omega)
  obtain rfl:i=r.length:=by omega
  rw[List.take_length]
  (repeat'((conv=>whnf);refine zN ?_));(all_goals(conv=>whnf))
  all_goals exact zE
theorem Ul (r:List Att) (hz:rdnZ r):Ac Tryz.prog 103 [.d (Dm r)] (fun x=>x=bv (Ea r)):=by
 obtain⟨hr,hs,he⟩:=hz
 have bad:r.all atV=false→Ea r=false:=fun h=>by unfold Ea;rw[h];simp
 refine acQ 24 Tryz.func103 rfl rfl fun _ _ _=> ?_
 (all_goals(conv=>whnf))
 refine Az (fun i:Nat=>i≤r.length∧(r.take i).all atV=true) (fun i=>r.length-i) (fun i=>⟨[(0,.d (Dm r)),(3,iv i)],[],[]⟩) 0 ⟨by omega,rfl⟩ leQ ?_
 rintro i ⟨hi,ha⟩
 by_cases hik:i<r.length
 ·have gi:decide ((i:Int)<r.length)=true:=decide_eq_true (by omega)
  obtain⟨x,hg⟩:∃p,r[i]?=some p:=⟨_,Ak hik⟩
  have hx:=hs x (Bk hg)
  have hV:=Z6 x (by have:=hx.o;omega) (by have:=hx.v;omega)
  cases h1:atV x
  ·rw[h1] at hV
   rw[bad (by
    cases hh:r.all atV with
    |false=>rfl
    |true=>rw[List.all_eq_true.1 hh x (Bk hg)] at h1;cases h1)]
   (repeat'((conv=>whnf);first|refine zP ?_|refine Ab ?_|refine NIdx.tab (fun _=>rfl) hg ?_|refine Aa hV Mg ?_|exact zE))
  ·rw[h1] at hV
   (repeat'((conv=>whnf);first|refine zP ?_|refine Ae ?_|refine NIdx.tab (fun _=>rfl) hg ?_|refine Aa hV Mg ?_|(with_reducible refine NInt.i64 ?_)));(all_goals(conv=>whnf))
   refine⟨i+1,⟨by omega,Eo atV hg h1 ha⟩,by omega,?_⟩
   exact leQ
 ·have gi:decide ((i:Int)<r.length)=false:=decide_eq_false (by omega)
  obtain rfl:i=r.length:=by omega
  rw[List.take_length] at ha
  have hP:=eF r ⟨hr,hs,he⟩ ha
  have hO:=Vm (r.map atE) (by rw[List.length_map];omega) (fun p hp=>by
   obtain⟨a,ha,rfl⟩:=List.mem_map.1 hp
   have:=gQ (hs a ha);have:=(hs a ha).o;have:=(hs a ha).v;omega)
  have e:Ea r=(!r.isEmpty&&F6 (r.map atE)):=by unfold Ea;rw[ha,Bool.true_and]
  rw[e]
  by_cases h0:r.length>0
  ·have g0:decide ((r.length:Int)>0)=true:=decide_eq_true (by omega)
   rw[show r.isEmpty=false by cases r<;>simp at h0⊢]
   (repeat'((conv=>whnf);first|refine zP ?_|refine zN ?_|refine Ab ?_|refine Aa hP Mg ?_|refine Aa hO Mg ?_|exact zE))
  ·have g0:decide ((r.length:Int)>0)=false:=decide_eq_false (by omega)
   rw[show r.isEmpty=true by cases r<;>simp at h0⊢]
   (repeat'((conv=>whnf);first|refine zN ?_|refine Ae ?_|exact zE))
theorem tA (n:List (List Att)) (hn:nmZ n):Ac Tryz.prog 145 [.d (Ff n)] (fun x=>x=bv (nmV n)):=by
 obtain⟨hr,hs,-⟩:=hn
 unfold nmV
 refine acQ 16 Tryz.func145 rfl rfl fun _ _ _=> ?_
 (all_goals(conv=>whnf))
 refine Az (fun i:Nat=>i≤n.length∧(n.take i).all Ea=true) (fun i=>n.length-i) (fun i=>⟨[(0,.d (Ff n)),(3,iv i)],[],[]⟩) 0 ⟨by omega,rfl⟩ leQ ?_
 rintro i ⟨hi,ha⟩
 by_cases hik:i<n.length
 ·have gi:decide ((i:Int)<n.length)=true:=decide_eq_true (by omega)
  obtain⟨x,hg⟩:∃p,n[i]?=some p:=⟨_,Ak hik⟩
  have hx:=hs x (Bk hg)
  have hV:=Ul x hx
  cases h1:Ea x
  ·rw[h1] at hV
   rw[show n.all Ea=false by
    cases hh:n.all Ea with
    |false=>rfl
    |true=>rw[List.all_eq_true.1 hh x (Bk hg)] at h1;cases h1]
   (repeat'((conv=>whnf);first|refine zP ?_|refine Ab ?_|refine NIdx.tab (fun _=>rfl) hg ?_|refine Aa hV Mg ?_|exact zE))
  ·rw[h1] at hV
   (repeat'((conv=>whnf);first|refine zP ?_|refine Ae ?_|refine NIdx.tab (fun _=>rfl) hg ?_|refine Aa hV Mg ?_|(with_reducible refine NInt.i64 ?_)));(all_goals(conv=>whnf))
   refine⟨i+1,⟨by omega,Eo Ea hg h1 ha⟩,by omega,?_⟩
   exact leQ
 ·have gi:decide ((i:Int)<n.length)=false:=decide_eq_false (by omega)
  obtain rfl:i=n.length:=by omega
  rw[List.take_length] at ha
  rw[ha]
  (repeat'((conv=>whnf);refine zN ?_));(all_goals(conv=>whnf))
  all_goals exact zE
structure Tr.nm (t:Tr):Prop where
 l:t.ks.length≤100000
 k:∀k∈t.ks,k.ks.length≤100000∧∀j∈k.ks,j.at
structure Att.eqs (a:Att):Prop where
 v:a.val.length≤1000000000
def tB (r:List Att):Prop:=r.length≤1000000∧∀a∈r,a.eqs
def xX (n:List (List Att)):Prop:=n.length≤1000000∧∀r∈n,tB r
structure Gn.eqs (g:Gn):Prop where
 b:g.by'.length≤1000000000
 n:xX g.nm
theorem CB (a b:Att):decide (a=b)=(a.oid==b.oid&&a.val==b.val):=by
 obtain⟨o,v⟩:=a;obtain⟨o',v'⟩:=b
 rw[Bool.eq_iff_iff];simp
theorem EJ (a b:Gn):decide (a=b)=(a.k==b.k&&(a.oid==b.oid&&(a.tx==b.tx&&(a.by'==b.by'&&(decide (a.nm=b.nm)&&((a.ak==b.ak&&a.av==b.av)&&(a.pk==b.pk&&a.pv==b.pv))))))):=by
 obtain⟨k,o,t,b1,n,ak,av,pk,pv⟩:=a;obtain⟨k',o',t',b1',n',ak',av',pk',pv'⟩:=b
 rw[Bool.eq_iff_iff];simp[and_assoc]
theorem Fs {p:Prop} (h:p:=by first|rfl|(simp only[AV.gives,AV.ren,AV.give,D.un,D.uns,Ai,Am,List.nil_append,List.append_nil,List.cons_append,At,A5,Cm,Bm,A4,Cf,Ck];first|done|rfl)):p:=h
theorem xY (a b:Att) (ha:a.eqs) (hb:b.eqs):Ac Tryz.prog 71 [atA a,atA b] (fun r=>r=bv (decide (a=b))):=by
 have hB:=Gk false false a.val b.val ha.v hb.v
 rw[CB]
 cases h:(a.oid==b.oid)
 ·refine acQ 17 Tryz.func71 rfl rfl fun _ _ _=> ?_
  (repeat'((conv=>whnf);first|refine zN ?_|refine Ae ?_|exact zE))
 ·rw[Bool.true_and]
  refine acQ 17 Tryz.func71 rfl rfl fun _ _ _=> ?_
  (repeat'((conv=>whnf);first|refine zP ?_|refine Ab ?_|refine Aa hB Fs ?_|exact zE))
theorem Wy (a b:List Att) (ha:a.length≤1000000∧∀p∈a,p.eqs) (hb:b.length≤1000000∧∀p∈b,p.eqs):Ac Tryz.prog 37 [.d (Dm a),.d (Dm b)] (fun r=>r=bv (decide (a=b))):=by
 obtain⟨ha,hpa⟩:=ha
 obtain⟨hb,hpb⟩:=hb
 refine acQ 33 Tryz.func37 rfl rfl fun _ _ _=> ?_
 (all_goals(conv=>whnf))
 refine Az (fun i:Nat=>i≤a.length∧i≤b.length∧a.take i=b.take i) (fun i=>a.length-i) (fun i=>⟨[(0,.d (Dm a)),(1,.d (Dm b)),(5,iv i)],[],[]⟩) 0 ⟨by omega,by omega,rfl⟩ leQ ?_
 rintro i ⟨hi,hj,ht⟩
 by_cases hik:i<a.length∧i<b.length
 ·obtain⟨k1,k2⟩:=hik
  have g1:decide ((i:Int)<a.length)=true:=decide_eq_true (by omega)
  have g2:decide ((i:Int)<b.length)=true:=decide_eq_true (by omega)
  obtain⟨x,hx⟩:∃p,a[i]?=some p:=⟨_,Ak k1⟩
  obtain⟨y,hy⟩:∃p,b[i]?=some p:=⟨_,Ak k2⟩
  have hB:=xY x y (hpa x (Bk hx)) (hpb y (Bk hy))
  by_cases hq:x=y
  ·rw[decide_eq_true hq] at hB
   (repeat'((conv=>whnf);first|refine zP ?_|refine Ab ?_|refine Ae ?_|refine NIdx.tab (fun _=>rfl) hx ?_|refine NIdx.tab (fun _=>rfl) hy ?_|refine Aa hB Fs ?_|(with_reducible refine NInt.i64 ?_)|refine zF ?_));(all_goals(conv=>whnf))
   refine⟨i+1,⟨by omega,by omega,Wg ht hx (hq▸hy)⟩,by omega,?_⟩
   exact leQ
  ·rw[decide_eq_false hq] at hB
   rw[decide_eq_false (rY hx hy hq)]
   (repeat'((conv=>whnf);first|refine zP ?_|refine Ab ?_|refine NIdx.tab (fun _=>rfl) hx ?_|refine NIdx.tab (fun _=>rfl) hy ?_|refine Aa hB Fs ?_|refine zF ?_|exact zE))
 ·by_cases he:a.length=b.length
  ·have:=dV ht hik hi hj he
   subst this
   have g1:decide ((i:Int)<a.length)=false:=decide_eq_false (by omega)
   rw[decide_eq_true rfl]
   (repeat'((conv=>whnf);first|refine zN ?_|refine Ae ?_));(all_goals(conv=>whnf))
   all_goals(refine Ba ?_;(repeat'(first|refine And.intro ?_ ?_|exact rfl));(all_goals(conv=>whnf)))
   all_goals simp
  ·rw[decide_eq_false (fun e=>he (by rw[e]))]
   have g3:((a.length:Int)==b.length)=false:=by rw[beq_eq_false_iff_ne];omega
   by_cases k1:i<a.length
   ·have g1:decide ((i:Int)<a.length)=true:=decide_eq_true (by omega)
    have g2:decide ((i:Int)<b.length)=false:=decide_eq_false (by omega)
    (repeat'((conv=>whnf);first|refine zP ?_|refine zN ?_|refine Ab ?_));(all_goals(conv=>whnf))
    all_goals(refine Ba ?_;(repeat'(first|refine And.intro ?_ ?_|exact rfl));(all_goals(conv=>whnf)))
    all_goals exact g3
   ·have g1:decide ((i:Int)<a.length)=false:=decide_eq_false (by omega)
    (repeat'((conv=>whnf);first|refine zN ?_|refine Ae ?_));(all_goals(conv=>whnf))
    all_goals(refine Ba ?_;(repeat'(first|refine And.intro ?_ ?_|exact rfl));(all_goals(conv=>whnf)))
    all_goals exact g3
theorem tD (a b:List (List Att)) (ha:a.length≤1000000∧∀p∈a,tB p) (hb:b.length≤1000000∧∀p∈b,tB p):Ac Tryz.prog 72 [.d (Ff a),.d (Ff b)] (fun r=>r=bv (decide (a=b))):=by
 obtain⟨ha,hpa⟩:=ha
 obtain⟨hb,hpb⟩:=hb
 refine acQ 33 Tryz.func72 rfl rfl fun _ _ _=> ?_
 (all_goals(conv=>whnf))
 refine Az (fun i:Nat=>i≤a.length∧i≤b.length∧a.take i=b.take i) (fun i=>a.length-i) (fun i=>⟨[(0,.d (Ff a)),(1,.d (Ff b)),(5,iv i)],[],[]⟩) 0 ⟨by omega,by omega,rfl⟩ leQ ?_
 rintro i ⟨hi,hj,ht⟩
 by_cases hik:i<a.length∧i<b.length
 ·obtain⟨k1,k2⟩:=hik
  have g1:decide ((i:Int)<a.length)=true:=decide_eq_true (by omega)
  have g2:decide ((i:Int)<b.length)=true:=decide_eq_true (by omega)
  obtain⟨x,hx⟩:∃p,a[i]?=some p:=⟨_,Ak k1⟩
  obtain⟨y,hy⟩:∃p,b[i]?=some p:=⟨_,Ak k2⟩
  have hB:=Wy x y (hpa x (Bk hx)) (hpb y (Bk hy))
  by_cases hq:x=y
  ·rw[decide_eq_true hq] at hB
   (repeat'((conv=>whnf);first|refine zP ?_|refine Ab ?_|refine Ae ?_|refine NIdx.tab (fun _=>rfl) hx ?_|refine NIdx.tab (fun _=>rfl) hy ?_|refine Aa hB Fs ?_|(with_reducible refine NInt.i64 ?_)|refine zF ?_));(all_goals(conv=>whnf))
   refine⟨i+1,⟨by omega,by omega,Wg ht hx (hq▸hy)⟩,by omega,?_⟩
   exact leQ
  ·rw[decide_eq_false hq] at hB
   rw[decide_eq_false (rY hx hy hq)]
   (repeat'((conv=>whnf);first|refine zP ?_|refine Ab ?_|refine NIdx.tab (fun _=>rfl) hx ?_|refine NIdx.tab (fun _=>rfl) hy ?_|refine Aa hB Fs ?_|refine zF ?_|exact zE))
 ·by_cases he:a.length=b.length
  ·have:=dV ht hik hi hj he
   subst this
   have g1:decide ((i:Int)<a.length)=false:=decide_eq_false (by omega)
   rw[decide_eq_true rfl]
   (repeat'((conv=>whnf);first|refine zN ?_|refine Ae ?_));(all_goals(conv=>whnf))
   all_goals(refine Ba ?_;(repeat'(first|refine And.intro ?_ ?_|exact rfl));(all_goals(conv=>whnf)))
   all_goals simp
  ·rw[decide_eq_false (fun e=>he (by rw[e]))]
   have g3:((a.length:Int)==b.length)=false:=by rw[beq_eq_false_iff_ne];omega
   by_cases k1:i<a.length
   ·have g1:decide ((i:Int)<a.length)=true:=decide_eq_true (by omega)
    have g2:decide ((i:Int)<b.length)=false:=decide_eq_false (by omega)
    (repeat'((conv=>whnf);first|refine zP ?_|refine zN ?_|refine Ab ?_));(all_goals(conv=>whnf))
    all_goals(refine Ba ?_;(repeat'(first|refine And.intro ?_ ?_|exact rfl));(all_goals(conv=>whnf)))
    all_goals exact g3
   ·have g1:decide ((i:Int)<a.length)=false:=decide_eq_false (by omega)
    (repeat'((conv=>whnf);first|refine zN ?_|refine Ae ?_));(all_goals(conv=>whnf))
    all_goals(refine Ba ?_;(repeat'(first|refine And.intro ?_ ?_|exact rfl));(all_goals(conv=>whnf)))
    all_goals exact g3
theorem C0 (a b:Gn) (ha:a.eqs) (hb:b.eqs):Ac Tryz.prog 38 [gnA a,gnA b] (fun r=>r=bv (decide (a=b))):=by
 have hB:=Gk false false a.by' b.by' ha.b hb.b
 have hN:=tD a.nm b.nm ha.n hb.n
 rw[EJ]
 generalize decide (a.nm=b.nm)=en at hN⊢
 obtain⟨k,o,t,b1,n,ak,av,pk,pv⟩:=a;obtain⟨k',o',t',b1',n',ak',av',pk',pv'⟩:=b
 simp only at hB hN⊢
 cases h1:(k==k')
 ·rw[Bool.false_and]
  refine acQ 52 Tryz.func38 rfl rfl fun _ _ _=> ?_
  (repeat'((conv=>whnf);first|refine zN ?_|refine Ae ?_|exact zE))
 rw[Bool.true_and]
 cases h2:(o==o')
 ·rw[Bool.false_and]
  refine acQ 52 Tryz.func38 rfl rfl fun _ _ _=> ?_
  (repeat'((conv=>whnf);first|refine zP ?_|refine zN ?_|refine Ab ?_|refine Ae ?_|exact zE))
 rw[Bool.true_and]
 cases h3:(t==t')
 ·rw[Bool.false_and]
  refine acQ 52 Tryz.func38 rfl rfl fun _ _ _=> ?_
  (repeat'((conv=>whnf);first|refine zP ?_|refine zN ?_|refine Ab ?_|refine Ae ?_|exact zE))
 rw[Bool.true_and]
 cases h4:(b1==b1')
 ·rw[h4] at hB
  rw[Bool.false_and]
  refine acQ 52 Tryz.func38 rfl rfl fun _ _ _=> ?_
  (repeat'((conv=>whnf);first|refine zP ?_|refine Ab ?_|refine Ae ?_|refine Aa hB Fs ?_|exact zE))
 rw[h4] at hB
 rw[Bool.true_and]
 cases en with
 |false=>
  rw[Bool.false_and]
  refine acQ 52 Tryz.func38 rfl rfl fun _ _ _=> ?_
  (repeat'((conv=>whnf);first|refine zP ?_|refine Ab ?_|refine Ae ?_|refine Aa hB Fs ?_|refine Aa hN Fs ?_|exact zE))
 |true=>
  rw[Bool.true_and]
  cases h6:(ak==ak'&&av==av')
  ·rw[Bool.false_and]
   refine acQ 52 Tryz.func38 rfl rfl fun _ _ _=> ?_
   (repeat'((conv=>whnf);first|refine zP ?_|refine zN ?_|refine Ab ?_|refine Ae ?_|refine Aa hB Fs ?_|refine Aa hN Fs ?_|refine A9 (Dj rfl rfl (ltN rfl) rfl rfl) ?_|exact zE))
  ·rw[Bool.true_and]
   refine acQ 52 Tryz.func38 rfl rfl fun _ _ _=> ?_
   (repeat'((conv=>whnf);first|refine zP ?_|refine Ab ?_|refine Aa hB Fs ?_|refine Aa hN Fs ?_|refine A9 (Dj rfl rfl (ltN rfl) rfl rfl) ?_|exact zE))
theorem Wz (a b:List Gn) (ha:a.length≤1000000∧∀p∈a,p.eqs) (hb:b.length≤1000000∧∀p∈b,p.eqs):Ac Tryz.prog 43 [.d (Ch a),.d (Ch b)] (fun r=>r=bv (decide (a=b))):=by
 obtain⟨ha,hpa⟩:=ha
 obtain⟨hb,hpb⟩:=hb
 refine acQ 33 Tryz.func43 rfl rfl fun _ _ _=> ?_
 (all_goals(conv=>whnf))
 refine Az (fun i:Nat=>i≤a.length∧i≤b.length∧a.take i=b.take i) (fun i=>a.length-i) (fun i=>⟨[(0,.d (Ch a)),(1,.d (Ch b)),(5,iv i)],[],[]⟩) 0 ⟨by omega,by omega,rfl⟩ leQ ?_
 rintro i ⟨hi,hj,ht⟩
 by_cases hik:i<a.length∧i<b.length
 ·obtain⟨k1,k2⟩:=hik
  have g1:decide ((i:Int)<a.length)=true:=decide_eq_true (by omega)
  have g2:decide ((i:Int)<b.length)=true:=decide_eq_true (by omega)
  obtain⟨x,hx⟩:∃p,a[i]?=some p:=⟨_,Ak k1⟩
  obtain⟨y,hy⟩:∃p,b[i]?=some p:=⟨_,Ak k2⟩
  have hB:=C0 x y (hpa x (Bk hx)) (hpb y (Bk hy))
  by_cases hq:x=y
  ·rw[decide_eq_true hq] at hB
   (repeat'((conv=>whnf);first|refine zP ?_|refine Ab ?_|refine Ae ?_|refine NIdx.tab (fun _=>rfl) hx ?_|refine NIdx.tab (fun _=>rfl) hy ?_|refine Aa hB Fs ?_|(with_reducible refine NInt.i64 ?_)|refine zF ?_));(all_goals(conv=>whnf))
   refine⟨i+1,⟨by omega,by omega,Wg ht hx (hq▸hy)⟩,by omega,?_⟩
   exact leQ
  ·rw[decide_eq_false hq] at hB
   rw[decide_eq_false (rY hx hy hq)]
   (repeat'((conv=>whnf);first|refine zP ?_|refine Ab ?_|refine NIdx.tab (fun _=>rfl) hx ?_|refine NIdx.tab (fun _=>rfl) hy ?_|refine Aa hB Fs ?_|refine zF ?_|exact zE))
 ·by_cases he:a.length=b.length
  ·have:=dV ht hik hi hj he
   subst this
   have g1:decide ((i:Int)<a.length)=false:=decide_eq_false (by omega)
   rw[decide_eq_true rfl]
   (repeat'((conv=>whnf);first|refine zN ?_|refine Ae ?_));(all_goals(conv=>whnf))
   all_goals(refine Ba ?_;(repeat'(first|refine And.intro ?_ ?_|exact rfl));(all_goals(conv=>whnf)))
   all_goals simp
  ·rw[decide_eq_false (fun e=>he (by rw[e]))]
   have g3:((a.length:Int)==b.length)=false:=by rw[beq_eq_false_iff_ne];omega
   by_cases k1:i<a.length
   ·have g1:decide ((i:Int)<a.length)=true:=decide_eq_true (by omega)
    have g2:decide ((i:Int)<b.length)=false:=decide_eq_false (by omega)
    (repeat'((conv=>whnf);first|refine zP ?_|refine zN ?_|refine Ab ?_));(all_goals(conv=>whnf))
    all_goals(refine Ba ?_;(repeat'(first|refine And.intro ?_ ?_|exact rfl));(all_goals(conv=>whnf)))
    all_goals exact g3
   ·have g1:decide ((i:Int)<a.length)=false:=decide_eq_false (by omega)
    (repeat'((conv=>whnf);first|refine zN ?_|refine Ae ?_));(all_goals(conv=>whnf))
    all_goals(refine Ba ?_;(repeat'(first|refine And.intro ?_ ?_|exact rfl));(all_goals(conv=>whnf)))
    all_goals exact g3
def Tr.isB (c n:Nat) (k:Bool):Tr→Bool
 | .mk c' n' k' _ _=>c'==c&&k'==k&&n'==n
def okT (d:Nat) (p:List UInt8) (t:Tr):Prop:=One d p∧trD d p=t
theorem okT.of {d:Nat} {p:List UInt8} (h:One d p):okT d p (trD d p):=⟨h,rfl⟩
theorem mT (n:Nat):1≤(Et n).length:=by
 unfold Et
 split
 ·rename_i h;rw[Cs (by omega)];simp
 ·simp
end Go.Proofs.YtaoahmplnckhpaaGreatDoor
