/- MT: the texts Rz R13P GenS GenW GenV Awk13, one behind the other. No condition but what each lemma says. -/
import Derived.Test.YtokmjjkbginodaaGreatDoorMS
set_option maxRecDepth 100000
set_option maxHeartbeats 16000000
namespace Go.Proofs.YtokmjjkbginodaaGreatDoor
open Go.RowKit
theorem Jh (k:Int) (c:List UInt8):(Cu k c).length≤4*c.length:=by
 unfold Cu
 split
 ·simp
 split
 ·unfold Fp
  split
  ·omega
  ·have:=Jt (Ar k).toNat c (c.length/(Ar k).toNat)
   have:=Nat.div_le_self c.length (Ar k).toNat
   omega
 ·simp
theorem Ps {f:Tr→List UInt8} {C:Nat}:∀{l:List Tr},(∀k∈l,(f k).length≤C*k.enc.length)→(l.map f).flatten.length≤C*(Tr.encs l).length
 |[],_=>by simp
 |x::r,h=>by
  have h1:=h x (by simp)
  have h2:=Ps (f:=f) (C:=C) (l:=r) fun k hk=>h k (by simp[hk])
  rw[List.map_cons,List.flatten_cons,Ap,Tr.encs,Ap,Nat.mul_add];omega
theorem IF (t:Tr) (i:Nat):(bR t i).length≤t.enc.length:=by
 unfold bR
 split
 ·rename_i k hk
  have:=Tr.mem_le (A8 hk)
  have:=t.parts;omega
 ·simp
theorem Nb {t:Tr} (h:t.ok) (i:Nat):(t.kid i).v.length≤t.enc.length+2:=by
 have:=(Jd h i).2;have:=(t.kid i).parts;omega
theorem Ji {t:Tr} (h:t.ok):∀k∈t.ks,k.ok∧k.enc.length≤t.enc.length:=fun k hk=>
 ⟨Tr.oks_mem (Tr.ok_ks h) k hk,by have:=Tr.mem_le hk;have:=t.parts;omega⟩
theorem CB {t:Tr} (h:t.ok) (hl:t.enc.length≤10000):insOk t:=
 ⟨by have:=Tr.encs_two t.ks;have:=t.parts;omega,fun k hk=>(Ji h k hk).1,by have:=t.parts;omega⟩
theorem JX {t:Tr} (h:t.ok) (hl:t.enc.length≤10000):t.at:=
 ⟨by have:=Nb h 0;omega,fun k hk=>by obtain⟨a,b⟩:=Ji h k (A8 hk);exact⟨a,by omega⟩⟩
theorem PQ {t:Tr} (h:t.ok) (hl:t.enc.length≤10000):t.nm:=
 ⟨by have:=Tr.encs_two t.ks;have:=t.parts;omega,fun k hk=>by
   obtain⟨a,b⟩:=Ji h k hk
   refine⟨by have:=Tr.encs_two k.ks;have:=k.parts;omega,fun j hj=> ?_⟩
   obtain⟨c,d⟩:=Ji a j hj
   exact JX c (by omega)⟩
theorem JY {t:Tr} (h:t.ok) (hl:t.enc.length≤9000):t.gn:=by
 obtain⟨a1,a2⟩:=Jd h 0
 obtain⟨b1,b2⟩:=Jd h 1
 exact⟨by have:=t.parts;omega,by have:=Nb h 0;omega,CB h (by omega),CB b1 (by omega),PQ a1 (by omega),by have:=Nb a1 0;omega,by have:=Nb b1 0;omega⟩
theorem CC {t:Tr} (h:t.ok) (hl:t.enc.length≤3010):(Oi t).sm∧(atE (Oi t)).length≤60*t.enc.length:=by
 have h1:=Qy (t.kid 0).v
 have h2:=Nb h 0
 have h3:=IF t 1
 have h4:=t.enc_two
 have h5:=oN (odT (t.kid 0).v)
 have h6:=As 0 6 false (Bq (odT (t.kid 0).v)) (by omega)
 have h7:=As 0 16 true (Ah 0 6 false (Bq (odT (t.kid 0).v))++bR t 1) (by rw[Ap];omega)
 rw[Ap] at h7
 refine⟨⟨by show(odT _).length≤_;omega,by show(bR t 1).length≤_;omega⟩,?_⟩
 show(Ah 0 16 true (Ah 0 6 false (Bq (odT (t.kid 0).v))++bR t 1)).length≤_
 omega
theorem Q5 {t:Tr} (h:t.ok) (hl:t.enc.length≤3010):rdnZ (Ei t)∧(Ct (Ei t)).length≤63*t.enc.length:=by
 have hp:=t.parts
 have hc:=Tr.encs_two t.ks
 have he:=t.enc_two
 have hk:∀k∈t.ks,(atE (Oi k)).length≤60*k.enc.length:=fun k hk=>by
  obtain⟨a,b⟩:=Ji h k hk
  exact(CC a (by omega)).2
 have hm:=Ps (f:=fun k=>atE (Oi k)) hk
 have hf:((Ei t).map atE).flatten.length≤60*(Tr.encs t.ks).length:=by
  unfold Ei;rw[List.map_map];exact hm
 have h7:=As 0 17 true ((Ei t).map atE).flatten (by omega)
 refine⟨⟨by unfold Ei;rw[List.length_map];omega,fun a ha=> ?_,by omega⟩,by unfold Ct;omega⟩
 obtain⟨k,hkm,rfl⟩:=List.mem_map.1 ha
 obtain⟨x,y⟩:=Ji h k hkm
 exact(CC x (by omega)).1
theorem CD {t:Tr} (h:t.ok) (hl:t.enc.length≤3010):nmZ (Na t)∧(nmE (Na t)).length≤200000:=by
 have hp:=t.parts
 have hc:=Tr.encs_two t.ks
 have hk:∀k∈t.ks,(Ct (Ei k)).length≤63*k.enc.length:=fun k hk=>by
  obtain⟨a,b⟩:=Ji h k hk
  exact(Q5 a (by omega)).2
 have hm:=Ps (f:=fun k=>Ct (Ei k)) hk
 have hf:((Na t).map Ct).flatten.length≤63*(Tr.encs t.ks).length:=by
  unfold Na;rw[List.map_map];exact hm
 have h7:=As 0 16 true ((Na t).map Ct).flatten (by omega)
 refine⟨⟨by unfold Na;rw[List.length_map];omega,fun a ha=> ?_,by omega⟩,by unfold nmE;omega⟩
 obtain⟨k,hkm,rfl⟩:=List.mem_map.1 ha
 obtain⟨x,y⟩:=Ji h k hkm
 exact(Q5 x (by omega)).1
theorem NO {t:Tr} (h:t.ok) (hl:t.enc.length≤3010):(nmE (Na t)).length≤63*t.enc.length+6:=by
 have hp:=t.parts
 have hm:=Ps (f:=fun k=>Ct (Ei k)) (C:=63) (l:=t.ks) fun k hk=>by
  obtain⟨a,b⟩:=Ji h k hk
  exact(Q5 a (by omega)).2
 have hf:((Na t).map Ct).flatten.length≤63*(Tr.encs t.ks).length:=by
  unfold Na;rw[List.map_map];exact hm
 have h7:=As 0 16 true ((Na t).map Ct).flatten (by omega)
 unfold nmE;omega
theorem Eu:nmZ []:=⟨by simp,by simp,by simp⟩
theorem pM {t:Tr} (h:t.ok) (hl:t.enc.length≤3006):(Bg t).zz:=by
 obtain⟨a1,a2⟩:=Jd h 0
 obtain⟨b1,b2⟩:=Jd h 1
 have p0:=t.parts
 have p1:=(t.kid 1).parts
 have v0:=Nb h 0
 have v1:=Nb a1 0
 have v2:=Nb b1 0
 have n0:=(CD a1 (by omega)).1
 have o0:=Qy (t.kid 0).v
 have o1:=Qy t.v
 have d0:=Jh 22 t.v
 have d1:=Jh ((t.kid 0).kid 0).n ((t.kid 0).kid 0).v
 have d2:=Jh ((t.kid 1).kid 0).n ((t.kid 1).kid 0).v
 obtain⟨c,n,k,b,ks⟩:=t
 simp only[Tr.v] at p0 o1 d0
 by_cases hn:n≤8
 ·rcases(by omega:n=0∨n=1∨n=2∨n=3∨n=4∨n=5∨n=6∨n=7∨n=8) with rfl|rfl|rfl|rfl|rfl|rfl|rfl|rfl|rfl
  ·exact⟨by show(odT _).length≤_;omega,by simp[Bg,Tr.n],by show(Tr.encs _).length≤_;omega,Eu,by simp[Bg,Tr.n],by simp[Bg,Tr.n]⟩
  ·exact⟨by simp[Bg,Tr.n],by show(Cu 22 b).length≤_;omega,by simp[Bg,Tr.n],Eu,by simp[Bg,Tr.n],by simp[Bg,Tr.n]⟩
  ·exact⟨by simp[Bg,Tr.n],by show(Cu 22 b).length≤_;omega,by simp[Bg,Tr.n],Eu,by simp[Bg,Tr.n],by simp[Bg,Tr.n]⟩
  ·exact⟨by simp[Bg,Tr.n],by simp[Bg,Tr.n],by show(Tr.encs _).length≤_;omega,Eu,by simp[Bg,Tr.n],by simp[Bg,Tr.n]⟩
  ·exact⟨by simp[Bg,Tr.n],by simp[Bg,Tr.n],by simp[Bg,Tr.n],n0,by simp[Bg,Tr.n],by simp[Bg,Tr.n]⟩
  ·show Gn.zz (if _ then _ else _)
   split
   ·exact⟨by simp,by simp,by simp,Eu,Nat.le_trans d1 (by omega),Nat.le_trans d2 (by omega)⟩
   ·exact⟨by simp,by simp,by simp,Eu,by simp,Nat.le_trans d1 (by omega)⟩
  ·exact⟨by simp[Bg,Tr.n],by show(Cu 22 b).length≤_;omega,by simp[Bg,Tr.n],Eu,by simp[Bg,Tr.n],by simp[Bg,Tr.n]⟩
  ·exact⟨by simp[Bg,Tr.n],by simp[Bg,Tr.n],by show b.length≤_;omega,Eu,by simp[Bg,Tr.n],by simp[Bg,Tr.n]⟩
  ·exact⟨Nat.le_trans o1 (by omega),by simp[Bg,Tr.n],by simp[Bg,Tr.n],Eu,by simp[Bg,Tr.n],by simp[Bg,Tr.n]⟩
 ·obtain⟨m,rfl⟩:∃m,n=m+9:=⟨n-9,by omega⟩
  exact⟨by simp[Bg,Tr.n],by simp[Bg,Tr.n],by simp[Bg,Tr.n],Eu,by simp[Bg,Tr.n],by simp[Bg,Tr.n]⟩
theorem CE {g:Gn} (h:g.zz) (hn:(nmE g.nm).length≤200000):((En g).getD []).length≤g.oid.length+g.by'.length+4*g.tx.length+(nmE g.nm).length+4*g.av.length+4*g.pv.length+60:=by
 have h1:=oN g.oid
 have:=h.o;have:=h.t;have:=h.b;have:=h.a;have:=h.p
 unfold En
 split
 ·split
  ·have h6:=As 0 6 false (Bq g.oid) (by omega)
   have h7:=As 2 0 true g.by' (by omega)
   show(_++_:List UInt8).length≤_
   rw[Ap];omega
  ·simp
 split
 ·split
  ·rename_i hv
   have:=Gx hv
   show(chS 22 g.tx).length≤_
   omega
  ·simp
 split
 ·show g.by'.length≤_;omega
 split
 ·split
  ·show(nmE g.nm).length≤_;omega
  ·simp
 split
 ·unfold M8
  split
  ·rename_i hv
   rw[At] at hv
   have l2:=Gg hv.2 h.p
   have x2:=As 2 1 true (txE g.pk g.pv) (by omega)
   show((if _ then _ else _)++_:List UInt8).length≤_
   rw[Ap]
   split
   ·simp;omega
   ·rename_i hz
    have hz:zT g.ak g.av=false:=by simpa using hz
    rw[hz,Bool.false_or] at hv
    have l1:=Gg hv.1 h.a
    have x1:=As 2 0 true (txE g.ak g.av) (by omega)
    omega
  ·simp
 split
 ·split
  ·show(Bq g.oid).length≤_;omega
  ·simp
 ·simp
theorem IG {t:Tr} (h:t.ok) (hl:t.enc.length≤3006):(nmE (Bg t).nm).length≤200000:=by
 obtain⟨a1,a2⟩:=Jd h 0
 have h0:=(CD a1 (by omega)).2
 have hz:(nmE []).length≤200000:=by decide+kernel
 obtain⟨c,n,k,b,ks⟩:=t
 by_cases hn:n≤8
 ·rcases(by omega:n=0∨n=1∨n=2∨n=3∨n=4∨n=5∨n=6∨n=7∨n=8) with rfl|rfl|rfl|rfl|rfl|rfl|rfl|rfl|rfl
  ·exact hz
  ·exact hz
  ·exact hz
  ·exact hz
  ·exact h0
  ·show(nmE (Gn.nm (if _ then _ else _))).length≤_
   split
   ·exact hz
   ·exact hz
  ·exact hz
  ·exact hz
  ·exact hz
 ·obtain⟨m,rfl⟩:∃m,n=m+9:=⟨n-9,by omega⟩
  exact hz
def lZ (g:Gn):List D:=[iD g.k,sD g.oid,sD g.tx,Af false g.by',Oy g.nm,iD g.ak,sD g.av,iD g.pk,sD g.pv]
def Tb (l:List Gn):D:=Fb true 9 lZ l
theorem IH (g:Gn):D.uns (lZ g)=gnC g:=by simp only[lZ,gnC,D.uns,An,Bl,D.un]
theorem D.uns_app (a b:List D):D.uns (a++b)=D.uns a++D.uns b:=by
 induction a with
 |nil=>rfl
 |cons x r ih=>show D.un x::D.uns (r++b)=D.un x::(D.uns r++D.uns b);rw[ih]
theorem Q6 (l:List Gn):D.uns (l.flatMap lZ)=l.flatMap gnC:=by
 induction l with
 |nil=>rfl
 |cons g r ih=>rw[List.flatMap_cons,D.uns_app,IH,ih,List.flatMap_cons]
theorem Lx (l:List Gn):(Tb l).un=Gy l:=by
 show D.sl false l.length 9 (D.uns (l.flatMap lZ))=_
 rw[Q6];rfl
theorem CF {α:Type} (f:α→Bool) {l:List α} {i:Nat} {x:α} (hg:l[i]?=some x) (hx:f x=false):l.all f=false:=by
 cases hh:l.all f with
 |false=>rfl
 |true=>rw[List.all_eq_true.1 hh x (A8 hg)] at hx;cases hx
theorem pN {b:List UInt8} (hb:b.length≤3000):(Bt b).ok∧(Bt b).enc.length≤3002:=by
 have:=GL b;exact⟨this.1,by omega⟩
theorem Q7 {p:Prop} (h:p:=by first|rfl|(simp only[AV.gives,AV.ren,AV.give,D.un,D.uns,An,Ao,List.nil_append,List.append_nil,List.cons_append,Av,A9,Ca,Bn,Bd,B8,Ck,Bw,Bl,Bx,Bf,Tr.cellss_un,Lx,Q6];first|done|rfl)):p:=h
structure gnsZ (l:List Gn):Prop where
 n:l.length≤100000
 z:∀g∈l,Gn.zz g
 e:(l.map gnE).flatten.length≤90000000
def Nc (l:List Gn):Bool:= !l.isEmpty&&l.all gnW
theorem Zd (l:List Gn) (hz:gnsZ l):Ab Tryz.prog 93 [.d (Gy l)] (fun r=>r=bv (Nc l)):=by
 obtain⟨hl,hs,-⟩:=hz
 unfold Nc
 refine acQ 19 Tryz.func93 rfl rfl fun _ _ _=> ?_
 (all_goals(conv=>whnf))
 refine Ax (fun i:Nat=>i≤l.length∧(l.take i).all gnW=true) (fun i=>l.length-i) (fun i=>⟨[(0,.d (Gy l)),(3,iv i)],[],[]⟩) 0 ⟨by omega,rfl⟩ leQ ?_
 rintro i ⟨hi,ha⟩
 by_cases hik:i<l.length
 ·have gi:decide ((i:Int)<l.length)=true:=decide_eq_true (by omega)
  obtain⟨x,hg⟩:∃p,l[i]?=some p:=⟨_,Am hik⟩
  have hV:=Fw x (hs x (A8 hg))
  cases h1:gnW x
  ·rw[h1] at hV
   rw[CF gnW hg h1,Bool.and_false]
   (repeat'((conv=>whnf);first|refine zP ?_|refine Ac ?_|refine NIdx.tab (fun _=>rfl) hg ?_|refine Aa hV Q7 ?_|exact zE))
  ·rw[h1] at hV
   (repeat'((conv=>whnf);first|refine zP ?_|refine Ae ?_|refine NIdx.tab (fun _=>rfl) hg ?_|refine Aa hV Q7 ?_|(with_reducible refine NInt.i64 ?_)));(all_goals(conv=>whnf))
   refine⟨i+1,⟨by omega,Gw gnW hg h1 ha⟩,by omega,?_⟩
   exact leQ
 ·have gi:decide ((i:Int)<l.length)=false:=decide_eq_false (by omega)
  obtain rfl:i=l.length:=by omega
  rw[List.take_length] at ha
  rw[ha,Bool.and_true,show(!l.isEmpty)=decide ((l.length:Int)>0) by cases l with|nil=>rfl|cons a r=>exact(decide_eq_true (by simp only[Ag];omega)).symm]
  (repeat'((conv=>whnf);refine zN ?_));(all_goals(conv=>whnf))
  all_goals exact zE
theorem gV (x:UInt8) (l:List Gn) (hz:gnsZ l) (hv:l.all gnW=true):Ab Tryz.prog 61 [cv x.toNat,.d (Gy l)] (fun r=>r=Bb 0 5 (Kb x (l.map gnE).flatten)):=by
 have hU:=F1 x (l.map gnE) (by rw[List.length_map];have:=hz.n;omega) (by have:=hz.e;omega)
 obtain⟨hl,hs,-⟩:=hz
 refine acQ 30 Tryz.func61 rfl rfl fun _ _ _=> ?_
 (all_goals(conv=>whnf))
 refine A5 [.s 5 1 22] (fun i:Nat=>i≤l.length) (fun i=>l.length-i) (fun i=>⟨[(0,cv x.toNat),(1,.d (Gy l)),(5,Bx 5 1 22 Dn ((l.take i).map gnE)),(6,iv i)],[],[(5,(((l.take i).map gnE).length,1,22))]⟩) 0 (by omega) leQ ?_
 rintro i hi
 have hml:((l.take i).map gnE).length≤100000:=by rw[List.length_map,Al];omega
 by_cases hik:i<l.length
 ·have gi:decide ((i:Int)<l.length)=true:=decide_eq_true (by omega)
  obtain⟨g,hg⟩:∃p,l[i]?=some p:=⟨_,Am hik⟩
  have hM:=BZ g (hs g (A8 hg))
  rw[List.all_eq_true.1 hv g (A8 hg)] at hM
  have hM:Ab Tryz.prog 97 [gnA g] (fun r=>r= .tup [Bb 0 5 (gnE g),iv 0]):=hM
  have hs1:=Fe gnE hg
  generalize gnE g=e at hM hs1
  (repeat'((conv=>whnf);first|refine zP ?_|refine NIdx.tab (fun _=>rfl) hg ?_|refine Aa hM Q7 ?_|refine A2 Dn e ?_|(with_reducible refine NInt.i64 ?_)));(all_goals(conv=>whnf))
  refine⟨i+1,by omega,by omega,?_⟩
  rw[hs1]
  exact leQ
 ·have gi:decide ((i:Int)<l.length)=false:=decide_eq_false (by omega)
  obtain rfl:i=l.length:=by omega
  rw[List.take_length]
  (repeat'((conv=>whnf);first|refine zN ?_|refine Aa hU Q7 ?_|exact zE))
theorem Ze (t:Tr) (hn:t.ks.length≤100000) (hk:∀k∈t.ks,k.gn):Ab Tryz.prog 57 [trF t] (fun r=>r= .d (Tb (t.ks.map Bg))):=by
 obtain⟨c,n,k,b,ks⟩:=t
 rw[Bv]
 simp only[Tr.ks] at hn hk⊢
 refine acQ 22 Tryz.func57 rfl rfl fun _ _ _=> ?_
 (all_goals(conv=>whnf))
 refine A5 [.s 3 9 55] (fun i:Nat=>i≤ks.length) (fun i=>ks.length-i) (fun i=>⟨[(1,.ptr 1 0),(3,Bx 3 9 55 lZ ((ks.take i).map Bg)),(4,iv i)],[(1,[iv c,iv n,bv k,.d (Af false b),.d (.sl false ks.length 5 (Tr.cellss false ks))])],[(3,(((ks.take i).map Bg).length,9,55))]⟩) 0 (by omega) leQ ?_
 rintro i hi
 have hml:((ks.take i).map Bg).length≤100000:=by rw[List.length_map,Al];omega
 by_cases hik:i<ks.length
 ·have gi:decide ((i:Int)<ks.length)=true:=decide_eq_true (by omega)
  obtain⟨x,hg⟩:∃p,ks[i]?=some p:=⟨_,Am hik⟩
  have hR:=CA x (hk x (A8 hg))
  have hs:=Fe Bg hg
  generalize Bg x=a at hR hs
  obtain⟨c',n',k',b',ks'⟩:=x
  rw[Bv] at hR
  (repeat'((conv=>whnf);first|refine zP ?_|(refine Fc hg ?_)|refine Aa hR Q7 ?_|refine A2 lZ a ?_|(with_reducible refine NInt.i64 ?_)));(all_goals(conv=>whnf))
  refine⟨i+1,by omega,by omega,?_⟩
  rw[hs]
  exact leQ
 ·have gi:decide ((i:Int)<ks.length)=false:=decide_eq_false (by omega)
  obtain rfl:i=ks.length:=by omega
  rw[List.take_length]
  (repeat'((conv=>whnf);refine zN ?_));(all_goals(conv=>whnf))
  all_goals exact zE
theorem CG {t:Tr} (h:t.ok) (hl:t.enc.length≤3006):(Bg t).oid.length≤21*t.enc.length+63∧(Bg t).by'.length≤t.enc.length+2∧(Bg t).tx.length≤4*t.enc.length∧(nmE (Bg t).nm).length≤63*t.enc.length+140∧(Bg t).av.length≤4*t.enc.length+16∧(Bg t).pv.length≤4*t.enc.length+16:=by
 obtain⟨a1,a2⟩:=Jd h 0
 obtain⟨b1,b2⟩:=Jd h 1
 have p0:=t.parts
 have p1:=(t.kid 1).parts
 have v0:=Nb h 0
 have v1:=Nb a1 0
 have v2:=Nb b1 0
 have n0:=NO a1 (by omega)
 have o0:=Qy (t.kid 0).v
 have o1:=Qy t.v
 have d0:=Jh 22 t.v
 have d1:=Jh ((t.kid 0).kid 0).n ((t.kid 0).kid 0).v
 have d2:=Jh ((t.kid 1).kid 0).n ((t.kid 1).kid 0).v
 have hz:(nmE []).length=2:=by decide+kernel
 have z0:([]:List UInt8).length=0:=rfl
 obtain⟨c,n,k,b,ks⟩:=t
 generalize he:(Tr.mk c n k b ks).enc.length=e at*
 by_cases hn:n≤8
 ·rcases(by omega:n=0∨n=1∨n=2∨n=3∨n=4∨n=5∨n=6∨n=7∨n=8) with rfl|rfl|rfl|rfl|rfl|rfl|rfl|rfl|rfl
  case inr.inr.inr.inr.inr.inl=>
   rw[show Bg (.mk c 5 k b ks)=if isT ((Tr.mk c 5 k b ks).kid 0) 2 0 true then⟨5,[],[],[],[],Oj (((Tr.mk c 5 k b ks).kid 0).kid 0),Ok (((Tr.mk c 5 k b ks).kid 0).kid 0),Oj (((Tr.mk c 5 k b ks).kid 1).kid 0),Ok (((Tr.mk c 5 k b ks).kid 1).kid 0)⟩ else⟨5,[],[],[],[],0,[],Oj (((Tr.mk c 5 k b ks).kid 0).kid 0),Ok (((Tr.mk c 5 k b ks).kid 0).kid 0)⟩ from rfl]
   split
   ·exact⟨Nat.le_trans (Nat.le_of_eq z0) (by omega),Nat.le_trans (Nat.le_of_eq z0) (by omega),Nat.le_trans (Nat.le_of_eq z0) (by omega),Nat.le_trans (Nat.le_of_eq hz) (by omega),Nat.le_trans d1 (by omega),Nat.le_trans d2 (by omega)⟩
   ·exact⟨Nat.le_trans (Nat.le_of_eq z0) (by omega),Nat.le_trans (Nat.le_of_eq z0) (by omega),Nat.le_trans (Nat.le_of_eq z0) (by omega),Nat.le_trans (Nat.le_of_eq hz) (by omega),Nat.le_trans (Nat.le_of_eq z0) (by omega),Nat.le_trans d1 (by omega)⟩
  all_goals(refine⟨?_,?_,?_,?_,?_,?_⟩<;>first|exact Nat.le_trans o0 (by omega)|exact Nat.le_trans o1 (by omega)|exact Nat.le_trans d0 (by omega)|exact Nat.le_trans n0 (by omega)|exact Nat.le_trans (Nat.le_of_eq hz) (by omega)|exact Nat.le_trans (Nat.le_of_eq z0) (by omega)|(show(Tr.encs _).length≤_;omega)|(show b.length≤_;simp only[Tr.v] at p0;omega))
 ·obtain⟨m,rfl⟩:∃m,n=m+9:=⟨n-9,by omega⟩
  refine⟨?_,?_,?_,?_,?_,?_⟩<;>first|exact Nat.le_trans (Nat.le_of_eq hz) (by omega)|exact Nat.le_trans (Nat.le_of_eq z0) (by omega)
theorem gW {t:Tr} (h:t.ok) (hl:t.enc.length≤3006):(gnE (Bg t)).length≤400*t.enc.length:=by
 obtain⟨q1,q2,q3,q4,q5,q6⟩:=CG h hl
 have hc:=CE (pM h hl) (IG h hl)
 have he:=t.enc_two
 have:=As 2 (Bg t).k.toNat (D0 (Bg t).k) ((En (Bg t)).getD []) (by omega)
 unfold gnE;omega
theorem Dp (c n:Nat) (k:Bool) (l:List UInt8):l.length+2≤(Ah c n k l).length:=by
 have:=Zc l.length
 unfold Ah;rw[E0];omega
theorem Nd {α:Type} (f:α→List UInt8) (k:Nat):∀{l:List α},(∀x∈l,k≤(f x).length)→k*l.length≤(l.map f).flatten.length
 |[],_=>by simp
 |x::r,h=>by
  have h1:=h x (by simp)
  have h2:=Nd f k (l:=r) fun y hy=>h y (by simp[hy])
  rw[List.map_cons,List.flatten_cons,Ap,Ag,Nat.mul_add];omega
theorem PR {a:Att} (h:atV a=true) (hl:(atE a).length≤400000):a.sm∧4≤(atE a).length:=by
 obtain⟨h1,-⟩:=T1 h
 have h3:=V1 h1
 have h4:=Dp 0 6 false (Bq a.oid)
 have h5:=Dp 0 16 true (Ah 0 6 false (Bq a.oid)++a.val)
 rw[Ap] at h5
 have e:(atE a).length=(Ah 0 16 true (Ah 0 6 false (Bq a.oid)++a.val)).length:=rfl
 exact⟨⟨by omega,by omega⟩,by omega⟩
theorem CH {r:List Att} (h:Eh r=true) (hl:(Ct r).length≤400000):rdnZ r∧4≤(Ct r).length:=by
 obtain⟨h0,h1,-⟩:=N6 h
 have h2:=Dp 0 17 true (r.map atE).flatten
 have e:(Ct r).length=(Ah 0 17 true (r.map atE).flatten).length:=rfl
 have h3:∀a∈r,a.sm∧4≤(atE a).length:=fun a ha=>by
  have:=Gc (List.mem_map_of_mem (f:=atE) ha)
  exact PR (List.all_eq_true.1 h1 a ha) (by omega)
 have h4:=Nd atE 4 fun a ha=>(h3 a ha).2
 have h5:1≤r.length:=by cases r with|nil=>exact absurd rfl h0|cons _ _=>simp
 exact⟨⟨by omega,fun a ha=>(h3 a ha).1,by omega⟩,by omega⟩
theorem PS {n:List (List Att)} (h:nmV n=true) (hl:(nmE n).length≤400000):nmZ n:=by
 have h2:=Dp 0 16 true (n.map Ct).flatten
 have e:(nmE n).length=(Ah 0 16 true (n.map Ct).flatten).length:=rfl
 have h3:∀r∈n,rdnZ r∧4≤(Ct r).length:=fun r hr=>by
  have:=Gc (List.mem_map_of_mem (f:=Ct) hr)
  exact CH (List.all_eq_true.1 h r hr) (by omega)
 have h4:=Nd Ct 4 fun r hr=>(h3 r hr).2
 exact⟨by omega,fun r hr=>(h3 r hr).1,by omega⟩
theorem CI {k:Int} {l:List UInt8} (h:Aq k l=true):l.length≤4*(chS k l).length:=by
 have:=Jh k (chS k l)
 rwa[(R5 h).2.1] at this
theorem CJ {k:Int} {l:List UInt8} (h:Aq k l=true):l.length≤4*(txE k l).length:=by
 have h1:=CI h
 have h2:=Dp 0 k.toNat false (chS k l)
 unfold txE;omega
theorem II {g:Gn} (h:gnW g=true) (hl:(gnE g).length≤400000):g.mid:=by
 obtain⟨h1,-,⟨c,h3⟩,h4⟩:=(N8 g).1 h
 have hc:c.length≤400000:=by
  have:=Dp 2 g.k.toNat (D0 g.k) ((En g).getD [])
  have e:(gnE g).length=(Ah 2 g.k.toNat (D0 g.k) ((En g).getD [])).length:=rfl
  rw[h3] at this e
  have e2:((some c).getD [])=c:=rfl
  rw[e2] at this e;omega
 refine⟨?_,by rw[h3];show c.length≤_;omega⟩
 obtain⟨m,hm,hk⟩:=Pn h3
 obtain⟨k,oid,tx,by',nm,ak,av,pk,pv⟩:=g
 rw[D5] at h1
 obtain⟨a1,a2,a3,a4,a5⟩:=h1
 simp only at hk a1 a2 a3 a4 a5
 subst hk
 unfold En at h3
 simp only at h3
 have l0:([]:List UInt8).length=0:=rfl
 rcases(by omega:m=0∨m=1∨m=2∨m=3∨m=4∨m=5∨m=6∨m=7∨m=8) with rfl|rfl|rfl|rfl|rfl|rfl|rfl|rfl|rfl
 ·obtain rfl:tx=[]:=by simpa using a2
  obtain rfl:nm=[]:=by simpa using a4
  obtain⟨⟨rfl,rfl⟩,rfl,rfl⟩:(ak=0∧av=[])∧pk=0∧pv=[]:=by simpa using a5
  rw[if_pos (by rfl)] at h3
  by_cases ho:E6 oid=true
  ·rw[if_pos ho] at h3
   obtain rfl:=Option.some.inj h3
   have:=V1 ho
   have:=Dp 0 6 false (Bq oid)
   have:=Dp 2 0 true by'
   rw[Ap] at hc
   exact⟨by show oid.length≤_;omega,by simp,by show by'.length≤_;omega,Eu,by simp,by simp⟩
  ·rw[if_neg ho] at h3;cases h3
 case inr.inr.inr.inl=>
  obtain rfl:oid=[]:=by simpa using a1
  obtain rfl:tx=[]:=by simpa using a2
  obtain rfl:nm=[]:=by simpa using a4
  obtain⟨⟨rfl,rfl⟩,rfl,rfl⟩:(ak=0∧av=[])∧pk=0∧pv=[]:=by simpa using a5
  rw[if_neg (by decide),if_neg (by decide),if_pos (by decide)] at h3
  obtain rfl:=Option.some.inj h3
  exact⟨by simp,by simp,by show by'.length≤_;omega,Eu,by simp,by simp⟩
 case inr.inr.inr.inr.inl=>
  obtain rfl:oid=[]:=by simpa using a1
  obtain rfl:tx=[]:=by simpa using a2
  obtain rfl:by'=[]:=by simpa using a3
  obtain⟨⟨rfl,rfl⟩,rfl,rfl⟩:(ak=0∧av=[])∧pk=0∧pv=[]:=by simpa using a5
  rw[if_neg (by decide),if_neg (by decide),if_neg (by decide),if_pos (by rfl)] at h3
  by_cases ho:nmV nm=true
  ·rw[if_pos ho] at h3
   obtain rfl:=Option.some.inj h3
   exact⟨by simp,by simp,by simp,PS ho hc,by simp,by simp⟩
  ·rw[if_neg ho] at h3;cases h3
 case inr.inr.inr.inr.inr.inl=>
  obtain rfl:oid=[]:=by simpa using a1
  obtain rfl:tx=[]:=by simpa using a2
  obtain rfl:by'=[]:=by simpa using a3
  obtain rfl:nm=[]:=by simpa using a4
  rw[if_neg (by decide),if_neg (by decide),if_neg (by decide),if_neg (by decide),if_pos (by rfl)] at h3
  unfold M8 at h3
  simp only at h3
  by_cases hh:((zT ak av||Aq ak av)&&Aq pk pv)=true
  ·rw[if_pos hh] at h3
   obtain rfl:=Option.some.inj h3
   rw[At,Bool.or_eq_true] at hh
   have k1:=CJ hh.2
   have k2:=Dp 2 1 true (txE pk pv)
   rw[Ap] at hc
   refine⟨by simp,by simp,by simp,Eu,?_,by show pv.length≤_;omega⟩
   show av.length≤_
   by_cases hz:zT ak av=true
   ·rw[(R6.1 hz).2];simp
   ·rw[if_neg hz] at hc
    have k3:=CJ (hh.1.resolve_left hz)
    have k4:=Dp 2 0 true (txE ak av)
    omega
  ·rw[if_neg hh] at h3;cases h3
 case inr.inr.inr.inr.inr.inr.inr.inl=>
  obtain rfl:oid=[]:=by simpa using a1
  obtain rfl:tx=[]:=by simpa using a2
  obtain rfl:nm=[]:=by simpa using a4
  obtain⟨⟨rfl,rfl⟩,rfl,rfl⟩:(ak=0∧av=[])∧pk=0∧pv=[]:=by simpa using a5
  rw[if_neg (by decide),if_neg (by decide),if_pos (by decide)] at h3
  obtain rfl:=Option.some.inj h3
  exact⟨by simp,by simp,by show by'.length≤_;omega,Eu,by simp,by simp⟩
 case inr.inr.inr.inr.inr.inr.inr.inr=>
  obtain rfl:tx=[]:=by simpa using a2
  obtain rfl:by'=[]:=by simpa using a3
  obtain rfl:nm=[]:=by simpa using a4
  obtain⟨⟨rfl,rfl⟩,rfl,rfl⟩:(ak=0∧av=[])∧pk=0∧pv=[]:=by simpa using a5
  rw[if_neg (by decide),if_neg (by decide),if_neg (by decide),if_neg (by decide),if_neg (by decide),if_pos (by rfl)] at h3
  by_cases ho:E6 oid=true
  ·rw[if_pos ho] at h3
   obtain rfl:=Option.some.inj h3
   have:=V1 ho
   exact⟨by show oid.length≤_;omega,by simp,by simp,Eu,by simp,by simp⟩
  ·rw[if_neg ho] at h3;cases h3
 all_goals
  obtain rfl:oid=[]:=by simpa using a1
  obtain rfl:by'=[]:=by simpa using a3
  obtain rfl:nm=[]:=by simpa using a4
  obtain⟨⟨rfl,rfl⟩,rfl,rfl⟩:(ak=0∧av=[])∧pk=0∧pv=[]:=by simpa using a5
  rw[if_neg (by decide),if_pos (by decide)] at h3
  by_cases ho:Aq 22 tx=true
  ·rw[if_pos ho] at h3
   obtain rfl:=Option.some.inj h3
   have:=CI ho
   exact⟨by simp,by show tx.length≤_;omega,by simp,Eu,by simp,by simp⟩
  ·rw[if_neg ho] at h3;cases h3
theorem Wv {l:List Gn} (h:l.all gnW=true) (hl:(l.map gnE).flatten.length≤400000):gnsM l:=by
 have hm:∀g∈l,g.mid:=fun g hg=>by
  have:=Gc (List.mem_map_of_mem (f:=gnE) hg)
  exact II (List.all_eq_true.1 h g hg) (by omega)
 have h4:=Nd gnE 2 (l:=l) fun g _=>by
  have:=Dp 2 g.k.toNat (D0 g.k) ((En g).getD [])
  unfold gnE;omega
 exact⟨by omega,hm,by omega⟩
def gX (g:Gn):List D:=[iD g.k,sD g.oid,sD g.tx,Af true g.by',Oy g.nm,iD g.ak,sD g.av,iD g.pk,sD g.pv]
def Jo (l:List Gn):D:=Fb true 9 gX l
theorem N9 (g:Gn):D.uns (gX g)=gnC g:=by simp only[gX,gnC,D.uns,An,Bl,D.un]
theorem Oa (l:List Gn):D.uns (l.flatMap gX)=l.flatMap gnC:=by
 induction l with
 |nil=>rfl
 |cons g r ih=>rw[List.flatMap_cons,D.uns_app,N9,ih,List.flatMap_cons]
theorem J3 (l:List Gn):(Jo l).un=Gy l:=by
 show D.sl false l.length 9 (D.uns (l.flatMap gX))=_
 rw[Oa];rfl
theorem pO {l:List Gn} (h:∀g∈l,g.mid):bM l=Nc l:=by
 unfold bM Nc
 congr 1
 induction l with
 |nil=>rfl
 |cons a r ih=>rw[List.all_cons,List.all_cons,MG (h a (by simp)),ih fun g hg=>h g (by simp[hg])]
theorem Ww (l:List Gn) (h:gnsM l):Ab Tryz.prog 25 [.d (Gy l)] (fun r=>r=Oh (Nc l) (Ta l)):=by
 have hM:=S4 l h
 rwa[pO h.m] at hM
theorem Wx (l:List Gn) (h:gnsM l):Ab Tryz.prog 46 [.d (Gy l)] (fun r=>r=bv (Nc l)):=by
 have hM:=gE l h
 rwa[pO h.m] at hM
theorem NP {g:Gn} (h:gnW g=true) (hs:g.mid):∃t:Tv,t.ok∧gnE g=t.enc:=by
 obtain⟨-,-,⟨c,h3⟩,-⟩:=(N8 g).1 h
 obtain⟨n,hn,hk⟩:=Pn h3
 exact⟨⟨2,g.k.toNat,D0 g.k,(En g).getD []⟩,⟨by show(2:Nat)≤3;omega,by show g.k.toNat≤30;omega,by have:=hs.c;show((En g).getD []).length≤_;omega⟩,rfl⟩
theorem pP {l:List Gn} (h:l.all gnW=true) (hs:gnsM l) (c n:Nat) (hc:c≤3) (hn:n≤30):∃ks,okT 21 (Ah c n true (l.map gnE).flatten) (.mk c n true [] ks)∧ks.map Bg=l:=by
 have hm:∀p∈l.map gnE,One 20 p∧p.length≤2147483647:=fun p hp=>by
  obtain⟨g,hg,rfl⟩:=List.mem_map.1 hp
  obtain⟨t,h1,-⟩:=BT (List.all_eq_true.1 h g hg) (hs.m g hg)
  have:=GR (hs.m g hg)
  exact⟨h1.1,by omega⟩
 have:=hs.e
 obtain⟨c1,c2⟩:=Im (d:=20) (c:=c) (n:=n) (l.map gnE) hc hn hm (by omega)
 refine⟨_,⟨c1,c2⟩,?_⟩
 rw[List.map_map,List.map_map]
 conv=>rhs;rw[←List.map_id l]
 exact List.map_congr_left fun g hg=>by
  obtain⟨t,h1,h2,-⟩:=BT (List.all_eq_true.1 h g hg) (hs.m g hg)
  show Bg (trD 20 (gnE g))=g
  rw[h1.2];exact h2
def gpS:List (List UInt8)→Option (List Gn)
 |[]=>some []
 |p::r=>match L6 p with
  |none=>none
  |some g=>(gpS r).map (g:: ·)
def gpL (b:List UInt8):List El→Option (List Gn)×Nat×Nat
 |[]=>(some [],0,0)
 |x::r=>match L6 (elO b x) with
  |none=>(none,(Wm (elO b x)).1,x.at'+(Wm (elO b x)).2)
  |some g=>match gpL b r with
   |(some gs,_)=>(some (g::gs),0,0)
   |(none,p)=>(none,p)
def Wy (ms:List Gn):Option (List Gn)×Nat×Nat→Option (List Gn)×Nat×Nat
 |(some r,_)=>(some (ms++r),0,0)
 |(none,p)=>(none,p)
theorem Wz (b:List UInt8):∀l:List El,(gpL b l).1.isSome=true→(gpL b l).2=(0,0)
 |[],_=>rfl
 |x::r,h=>by
  rw[gpL] at h⊢
  cases hv:L6 (elO b x) with
  |none=>rw[hv] at h;cases h
  |some m=>
   rw[hv] at h
   cases hp:gpL b r with
   |mk o p=>rw[hp] at h;cases o with
    |none=>cases h
    |some ms=>rfl
theorem uQ (b:List UInt8) (l:List El):Wy [] (gpL b l)=gpL b l:=by
 have h:=Wz b l
 cases hp:gpL b l with
 |mk o p=>
  rw[hp] at h
  cases o with
  |none=>rfl
  |some ms=>have:=h rfl;simp only at this;subst this;rfl
theorem mA {b:List UInt8} {x:El} {r:List El} {m:Gn} (ms:List Gn) (hv:L6 (elO b x)=some m):Wy ms (gpL b (x::r))=Wy (ms++[m]) (gpL b r):=by
 rw[gpL,hv]
 cases hp:gpL b r with
 |mk o p=>cases o with
  |none=>rfl
  |some l=>simp[Wy]
theorem bT (b:List UInt8):∀l:List El,(gpL b l).1=gpS (l.map (elO b))
 |[]=>rfl
 |x::r=>by
  have ih:=bT b r
  rw[gpL,List.map_cons,gpS]
  cases hv:L6 (elO b x) with
  |none=>rfl
  |some m=>
   simp only
   rw[←ih]
   cases hp:gpL b r with
   |mk o p=>cases o<;>rfl
theorem pQ {b:List UInt8}:∀{l:List El},(∀x∈l,x.at'≤x.stop∧x.stop≤b.length)→(gpL b l).1=none→(gpL b l).2.1≠0∧(gpL b l).2.2≤b.length
 |[],_,h=>by cases h
 |x::r,hx,h=>by
  have ih:=pQ (b:=b) (l:=r) fun y hy=>hx y (by simp[hy])
  rw[gpL] at h⊢
  cases hv:L6 (elO b x) with
  |none=>
   obtain⟨e1,e2⟩:=bL (elO b x)
   have:=Pl b x
   obtain⟨x1,x2⟩:=hx x (by simp)
   exact⟨e1,by show x.at'+_≤_;omega⟩
  |some m=>
   rw[hv] at h
   cases hp:gpL b r with
   |mk o p=>
    rw[hp] at h ih
    cases o with
    |none=>exact ih rfl
    |some ms=>cases h
theorem pR:∀{v:List Gn},v.all gnW=true→(∀m∈v,m.mid)→gpS (v.map gnE)=some v
 |[],_,_=>rfl
 |m::r,h,hs=>by
  rw[List.all_cons,At] at h
  rw[List.map_cons,gpS,gL h.1 (hs m (by simp)),pR h.2 fun k hk=>hs k (by simp[hk])];rfl
theorem pS:∀{ps:List (List UInt8)} {v:List Gn},(∀p∈ps,p.length≤800000)→gpS ps=some v→v.all gnW=true∧ps=v.map gnE
 |[],v,_,h=>by
  rw[gpS] at h
  obtain rfl:=Option.some.inj h
  exact⟨rfl,rfl⟩
 |p::r,v,hl,h=>by
  rw[gpS] at h
  cases hv:L6 p with
  |none=>rw[hv] at h;cases h
  |some m=>
   rw[hv] at h
   cases hr:gpS r with
   |none=>rw[hr] at h;cases h
   |some w=>
    rw[hr] at h
    obtain rfl:=Option.some.inj h
    obtain⟨k1,k2⟩:=AX hv (hl p (by simp))
    obtain⟨k3,k4⟩:=pS (fun q hq=>hl q (by simp[hq])) hr
    exact⟨by rw[List.all_cons,k1,k3];rfl,by rw[List.map_cons,←k2,←k4]⟩
def bU (b:List UInt8):Option (List Gn)×Nat×Nat:=
 if(A6 b 0 16).code≠0 then(none,(A6 b 0 16).code,(A6 b 0 16).off) else if(A6 b 0 16).l=[] then(none,1,b.length) else gpL b (A6 b 0 16).l
def QL:Option (List Gn)×Nat×Nat→AV
 |(some gs,_)=> .tup [.d (Jo gs),erA 0 0]
 |(none,c,p)=> .tup [A4,erA c p]
theorem pU (b:List UInt8) (hb:b.length≤800000):(∃v:List Gn,v≠[]∧v.all gnW=true∧b=Ta v∧bU b=(some v,0,0))∨(∃c o:Nat,c≠0∧o≤b.length∧bU b=(none,c,o)):=by
 unfold bU
 by_cases h1:(A6 b 0 16).code≠0
 ·rw[if_pos h1]
  exact .inr ⟨_,_,h1,Hx b 0 16,rfl⟩
 rw[if_neg h1]
 have h1':=Decidable.not_not.1 h1
 obtain⟨ts,t1,t2,-,-,-⟩:=Iy h1'
 have hlt:(C6 ts).length≤800000:=by
  have:=congrArg List.length t2
  unfold Ah at this
  rw[E0] at this;omega
 obtain⟨q,e1,e2⟩:=Fg (c:=0) (n:=16) ts (by omega) (by omega) t1 (by omega)
 rw[←t2] at e1 e2
 rw[e1]
 by_cases h2:els q ts=[]
 ·rw[if_pos h2];exact .inr ⟨1,b.length,by omega,Nat.le_refl _,rfl⟩
 rw[if_neg h2]
 have hf:=bT b (els q ts)
 rw[e2] at hf
 have hoff:=pQ (b:=b) (l:=els q ts) fun x hx=>by
  have:=D4 (b:=b) (c:=0) (n:=16) (x:=x) (by rw[e1];exact hx)
  omega
 have hz:=Wz b (els q ts)
 show(∃v:List Gn,v≠[]∧v.all gnW=true∧b=Ta v∧gpL b (els q ts)=(some v,0,0))∨(∃c o:Nat,c≠0∧o≤b.length∧gpL b (els q ts)=(none,c,o))
 cases hp:gpL b (els q ts) with
 |mk o p=>
  rw[hp] at hf hoff hz
  obtain⟨c,p⟩:=p
  simp only at hf hoff hz
  cases o with
  |none=>exact .inr ⟨c,p,(hoff rfl).1,(hoff rfl).2,rfl⟩
  |some v=>
   obtain⟨k1,k2⟩:=pS (fun p hp=>by
    have:=Gc hp
    rw[←Eg] at this;omega) hf.symm
   have hz:=hz rfl
   simp only[Prod.mk.injEq] at hz
   obtain⟨rfl,rfl⟩:=hz
   refine .inl ⟨v,?_,k1,?_,rfl⟩
   ·rintro rfl
    cases ts with
    |nil=>exact h2 rfl
    |cons t r=>simp at k2
   ·rw[t2]
    unfold Ta
    rw[Eg,k2]
theorem NQ {v:List Gn} (h:v.all gnW=true) (hs:gnsM v):∃ts:List Tv,(∀t∈ts,t.ok)∧v.map gnE=ts.map Tv.enc:=
 Qx fun p hp=>by
  obtain⟨m,hm,rfl⟩:=List.mem_map.1 hp
  exact NP (List.all_eq_true.1 h m hm) (hs.m m hm)
theorem IJ {v:List Gn} (h0:v≠[]) (h:v.all gnW=true) (hs:gnsM v):bU (Ta v)=(some v,0,0):=by
 obtain⟨ts,t1,t2⟩:=NQ h hs
 have hfl:(v.map gnE).flatten=C6 ts:=by rw[t2,Eg]
 have:=hs.e
 obtain⟨q,e1,e2⟩:=Fg (c:=0) (n:=16) ts (by omega) (by omega) t1 (by rw[←hfl];omega)
 have hf:=bT (Ah 0 16 true (C6 ts)) (els q ts)
 rw[e2,←t2,pR h hs.m] at hf
 unfold bU Ta
 rw[hfl,e1,if_neg (by simp),if_neg (by
  intro e
  have:=congrArg List.length e
  rw[Tz] at this
  have h3:=congrArg List.length t2
  rw[List.length_map,List.length_map] at h3
  exact h0 (List.eq_nil_of_length_eq_zero (by rw[h3];exact this)))]
 have hz:=Wz (Ah 0 16 true (C6 ts)) (els q ts) (by rw[hf];rfl)
 exact Prod.ext hf hz
theorem Q8 {p:Prop} (h:p:=by first|rfl|(simp only[AV.gives,AV.ren,AV.give,D.un,D.uns,An,Ao,List.nil_append,List.append_nil,List.cons_append,Av,A9,Ca,Bn,Bd,B8,Ck,Bw,Bl,Bx,Bf,J3,N9,Oa,Ee,Ef];first|done|rfl)):p:=h
theorem gY (b:List UInt8) (hb:b.length≤800000):Ab Tryz.prog 72 [.d (Af false b)] (fun r=>r=QL (bU b)):=by
 have hP:=Iv b 0 16 (by omega)
 have hin:=fun x=>D4 (b:=b) (c:=0) (n:=16) (x:=x)
 have hcn:=Jc b 0 16
 unfold bU
 generalize A6 b 0 16=R at hP hin hcn⊢
 by_cases h1:R.code≠0
 ·rw[if_pos h1]
  rw[lrA,if_pos h1] at hP
  have gc:((R.code:Int) !=0)=true:=by rw[bne_iff_ne];omega
  generalize R.code=c at hP gc
  generalize R.off=o at hP
  refine acQ 60 Tryz.func72 rfl rfl fun _ _ _=> ?_
  (repeat'((conv=>whnf);first|refine zP ?_|refine Aa hP Q8 ?_|refine zF ?_|exact zE))
 rw[if_neg h1]
 rw[lrA,if_neg h1] at hP
 generalize R.l=l at hP hin hcn⊢
 by_cases h2:l=[]
 ·subst h2
  rw[if_pos rfl]
  refine acQ 60 Tryz.func72 rfl rfl fun _ _ _=> ?_
  (repeat'((conv=>whnf);first|refine Ac ?_|refine Ae ?_|refine Aa hP Q8 ?_|exact zE))
 rw[if_neg h2]
 have gl:((l.length:Int)==0)=false:=by rw[beq_eq_false_iff_ne];intro h;exact h2 (List.eq_nil_of_length_eq_zero (by omega))
 have hd0:gpL b l=Wy [] (gpL b (l.drop 0)):=by rw[uQ,List.drop_zero]
 generalize hQ:gpL b l=q at hd0⊢
 refine acQ 60 Tryz.func72 rfl rfl fun _ _ _=> ?_
 (repeat'((conv=>whnf);first|refine zN ?_|refine Ae ?_|refine Aa hP Q8 ?_));(all_goals(conv=>whnf))
 refine A5 [.s 6 9 55] (fun z:Nat×List Gn=>z.1≤l.length∧z.2.length≤z.1∧q=Wy z.2 (gpL b (l.drop z.1))) (fun z=>l.length-z.1) (fun z=>⟨[(0,.d (Af false b)),(3,.ptr 3 0),(6,Bx 6 9 55 gX z.2),(26,.d (eJ l)),(27,iv l.length),(28,iv z.1)],[(3,[iv 0,iv 0])],[(6,(z.2.length,9,55))]⟩) (0,[]) ⟨by simp,by simp,hd0⟩ leQ ?_
 rintro⟨i,ms⟩ ⟨hi,hm,he⟩
 simp only at hi hm he
 by_cases hik:i<l.length
 ·have gi:decide ((i:Int)<l.length)=true:=decide_eq_true (by omega)
  obtain⟨x,hg⟩:∃p,l[i]?=some p:=⟨_,Am hik⟩
  obtain⟨x1,x2,x3⟩:=hin x (A8 hg)
  have hel:=N7 b x
  have hO:=Wo (elO b x) (by omega)
  obtain⟨hc0,hof⟩:=bL (elO b x)
  rw[N5 hg] at he
  cases hp:L6 (elO b x) with
  |none=>
   have bad:q=(none,(Wm (elO b x)).1,x.at'+(Wm (elO b x)).2):=by rw[he,gpL,hp];rfl
   rw[bad]
   rw[hp] at hO
   generalize Wm (elO b x)=e at hO hc0 hof
   obtain⟨c,o⟩:=e
   simp only at hc0 hof
   have hO:Ab Tryz.prog 83 [.d (Af false (elO b x))] (fun r=>r= .tup [gnQ gz,erA c o]):=hO
   have gc:((c:Int) !=0)=true:=by rw[bne_iff_ne];omega
   unfold elO at hO
   (repeat'((conv=>whnf);first|refine zP ?_|refine NIdx.tab (fun _=>rfl) hg ?_|refine NSl.slice (x.at') (x.stop) ?_|refine Aa hO Q8 ?_|(with_reducible refine NInt.i64 ?_)|refine zF ?_|exact zE))
  |some g=>
   rw[mA ms hp] at he
   rw[hp] at hO
   have hO:Ab Tryz.prog 83 [.d (Af false (elO b x))] (fun r=>r= .tup [gnQ g,erA 0 0]):=hO
   unfold elO at hO
   (repeat'((conv=>whnf);first|refine zP ?_|refine Ae ?_|refine NIdx.tab (fun _=>rfl) hg ?_|refine NSl.slice (x.at') (x.stop) ?_|refine Aa hO Q8 ?_|refine A2 gX g ?_|(with_reducible refine NInt.i64 ?_)));(all_goals(conv=>whnf))
   refine⟨(i+1,ms++[g]),⟨by show i+1≤_;omega,by simp;omega,he⟩,by show l.length-(i+1)<l.length-i;omega,?_⟩
   exact leQ
 ·have gi:decide ((i:Int)<l.length)=false:=decide_eq_false (by omega)
  obtain rfl:i=l.length:=by omega
  rw[List.drop_length,gpL] at he
  have he':q=(some ms,0,0):=by rw[he];simp[Wy]
  subst he'
  (repeat'((conv=>whnf);refine zN ?_));(all_goals(conv=>whnf))
  all_goals exact zE
theorem uR {g:Gn} {n:Nat} {k:Bool} {c b:List UInt8} (h1:En g=some c) (h2:g.k=n) (h3:D0 n=k) (h4:c.length<128) (h5:UInt8.ofNat (idN 2 k n)::UInt8.ofNat c.length::c=b):gnE g=b:=by
 unfold gnE
 rw[h1,h2,h3,show(some c).getD []=c from rfl,Int.toNat_natCast,E5 _ _ _ _ h4];exact h5
end Go.Proofs.YtokmjjkbginodaaGreatDoor
