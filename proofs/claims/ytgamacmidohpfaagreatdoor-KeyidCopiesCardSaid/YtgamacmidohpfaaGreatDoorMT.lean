/- MT: the texts Rz R13P GenS GenW GenV Frz2, one behind the other. No condition but what each lemma says. -/
import Derived.Test.YtgamacmidohpfaaGreatDoorMS
set_option maxRecDepth 100000
set_option maxHeartbeats 16000000
namespace Go.Proofs.YtgamacmidohpfaaGreatDoor
open Go.RowKit
theorem Im (k:Int) (c:List UInt8):(Cm k c).length≤4*c.length:=by
 unfold Cm
 split
 ·simp
 split
 ·unfold E6
  split
  ·omega
  ·have:=Iu (Aq k).toNat c (c.length/(Aq k).toNat)
   have:=Nat.div_le_self c.length (Aq k).toNat
   omega
 ·simp
theorem Uu {f:Tr→List UInt8} {C:Nat}:∀{l:List Tr},(∀k∈l,(f k).length≤C*k.enc.length)→(l.map f).flatten.length≤C*(Tr.encs l).length
 |[],_=>by simp
 |x::r,h=>by
  have h1:=h x (by simp)
  have h2:=Uu (f:=f) (C:=C) (l:=r) fun k hk=>h k (by simp[hk])
  rw[List.map_cons,List.flatten_cons,Ap,Tr.encs,Ap,Nat.mul_add];omega
theorem AB (t:Tr) (i:Nat):(Yx t i).length≤t.enc.length:=by
 unfold Yx
 split
 ·rename_i k hk
  have:=Tr.mem_le (Bl hk)
  have:=t.parts;omega
 ·simp
theorem Mc {t:Tr} (h:t.ok) (i:Nat):(t.kid i).v.length≤t.enc.length+2:=by
 have:=(L6 h i).2;have:=(t.kid i).parts;omega
theorem Md {t:Tr} (h:t.ok):∀k∈t.ks,k.ok∧k.enc.length≤t.enc.length:=fun k hk=>
 ⟨Tr.oks_mem (Tr.ok_ks h) k hk,by have:=Tr.mem_le hk;have:=t.parts;omega⟩
theorem vB {t:Tr} (h:t.ok) (hl:t.enc.length≤10000):insOk t:=
 ⟨by have:=Tr.encs_two t.ks;have:=t.parts;omega,fun k hk=>(Md h k hk).1,by have:=t.parts;omega⟩
theorem FW {t:Tr} (h:t.ok) (hl:t.enc.length≤10000):t.at:=
 ⟨by have:=Mc h 0;omega,fun k hk=>by obtain⟨a,b⟩:=Md h k (Bl hk);exact⟨a,by omega⟩⟩
theorem FX {t:Tr} (h:t.ok) (hl:t.enc.length≤10000):t.nm:=
 ⟨by have:=Tr.encs_two t.ks;have:=t.parts;omega,fun k hk=>by
   obtain⟨a,b⟩:=Md h k hk
   refine⟨by have:=Tr.encs_two k.ks;have:=k.parts;omega,fun j hj=> ?_⟩
   obtain⟨c,d⟩:=Md a j hj
   exact FW c (by omega)⟩
theorem FY {t:Tr} (h:t.ok) (hl:t.enc.length≤9000):t.gn:=by
 obtain⟨a1,a2⟩:=L6 h 0
 obtain⟨b1,b2⟩:=L6 h 1
 exact⟨by have:=t.parts;omega,by have:=Mc h 0;omega,vB h (by omega),vB b1 (by omega),FX a1 (by omega),by have:=Mc a1 0;omega,by have:=Mc b1 0;omega⟩
theorem vC {t:Tr} (h:t.ok) (hl:t.enc.length≤3010):(Pl t).sm∧(atE (Pl t)).length≤60*t.enc.length:=by
 have h1:=Pf (t.kid 0).v
 have h2:=Mc h 0
 have h3:=AB t 1
 have h4:=t.enc_two
 have h5:=iR (odT (t.kid 0).v)
 have h6:=At 0 6 false (Bm (odT (t.kid 0).v)) (by omega)
 have h7:=At 0 16 true (Ai 0 6 false (Bm (odT (t.kid 0).v))++Yx t 1) (by rw[Ap];omega)
 rw[Ap] at h7
 refine⟨⟨by show(odT _).length≤_;omega,by show(Yx t 1).length≤_;omega⟩,?_⟩
 show(Ai 0 16 true (Ai 0 6 false (Bm (odT (t.kid 0).v))++Yx t 1)).length≤_
 omega
theorem Yz {t:Tr} (h:t.ok) (hl:t.enc.length≤3010):rdnZ (Gq t)∧(Cu (Gq t)).length≤63*t.enc.length:=by
 have hp:=t.parts
 have hc:=Tr.encs_two t.ks
 have he:=t.enc_two
 have hk:∀k∈t.ks,(atE (Pl k)).length≤60*k.enc.length:=fun k hk=>by
  obtain⟨a,b⟩:=Md h k hk
  exact(vC a (by omega)).2
 have hm:=Uu (f:=fun k=>atE (Pl k)) hk
 have hf:((Gq t).map atE).flatten.length≤60*(Tr.encs t.ks).length:=by
  unfold Gq;rw[List.map_map];exact hm
 have h7:=At 0 17 true ((Gq t).map atE).flatten (by omega)
 refine⟨⟨by unfold Gq;rw[List.length_map];omega,fun a ha=> ?_,by omega⟩,by unfold Cu;omega⟩
 obtain⟨k,hkm,rfl⟩:=List.mem_map.1 ha
 obtain⟨x,y⟩:=Md h k hkm
 exact(vC x (by omega)).1
theorem vD {t:Tr} (h:t.ok) (hl:t.enc.length≤3010):nmZ (Mb t)∧(nmE (Mb t)).length≤200000:=by
 have hp:=t.parts
 have hc:=Tr.encs_two t.ks
 have hk:∀k∈t.ks,(Cu (Gq k)).length≤63*k.enc.length:=fun k hk=>by
  obtain⟨a,b⟩:=Md h k hk
  exact(Yz a (by omega)).2
 have hm:=Uu (f:=fun k=>Cu (Gq k)) hk
 have hf:((Mb t).map Cu).flatten.length≤63*(Tr.encs t.ks).length:=by
  unfold Mb;rw[List.map_map];exact hm
 have h7:=At 0 16 true ((Mb t).map Cu).flatten (by omega)
 refine⟨⟨by unfold Mb;rw[List.length_map];omega,fun a ha=> ?_,by omega⟩,by unfold nmE;omega⟩
 obtain⟨k,hkm,rfl⟩:=List.mem_map.1 ha
 obtain⟨x,y⟩:=Md h k hkm
 exact(Yz x (by omega)).1
theorem EM {t:Tr} (h:t.ok) (hl:t.enc.length≤3010):(nmE (Mb t)).length≤63*t.enc.length+6:=by
 have hp:=t.parts
 have hm:=Uu (f:=fun k=>Cu (Gq k)) (C:=63) (l:=t.ks) fun k hk=>by
  obtain⟨a,b⟩:=Md h k hk
  exact(Yz a (by omega)).2
 have hf:((Mb t).map Cu).flatten.length≤63*(Tr.encs t.ks).length:=by
  unfold Mb;rw[List.map_map];exact hm
 have h7:=At 0 16 true ((Mb t).map Cu).flatten (by omega)
 unfold nmE;omega
theorem Ef:nmZ []:=⟨by simp,by simp,by simp⟩
theorem jO {t:Tr} (h:t.ok) (hl:t.enc.length≤3006):(Bn t).zz:=by
 obtain⟨a1,a2⟩:=L6 h 0
 obtain⟨b1,b2⟩:=L6 h 1
 have p0:=t.parts
 have p1:=(t.kid 1).parts
 have v0:=Mc h 0
 have v1:=Mc a1 0
 have v2:=Mc b1 0
 have n0:=(vD a1 (by omega)).1
 have o0:=Pf (t.kid 0).v
 have o1:=Pf t.v
 have d0:=Im 22 t.v
 have d1:=Im ((t.kid 0).kid 0).n ((t.kid 0).kid 0).v
 have d2:=Im ((t.kid 1).kid 0).n ((t.kid 1).kid 0).v
 obtain⟨c,n,k,b,ks⟩:=t
 simp only[Tr.v] at p0 o1 d0
 by_cases hn:n≤8
 ·rcases(by omega:n=0∨n=1∨n=2∨n=3∨n=4∨n=5∨n=6∨n=7∨n=8) with rfl|rfl|rfl|rfl|rfl|rfl|rfl|rfl|rfl
  ·exact⟨by show(odT _).length≤_;omega,by simp[Bn,Tr.n],by show(Tr.encs _).length≤_;omega,Ef,by simp[Bn,Tr.n],by simp[Bn,Tr.n]⟩
  ·exact⟨by simp[Bn,Tr.n],by show(Cm 22 b).length≤_;omega,by simp[Bn,Tr.n],Ef,by simp[Bn,Tr.n],by simp[Bn,Tr.n]⟩
  ·exact⟨by simp[Bn,Tr.n],by show(Cm 22 b).length≤_;omega,by simp[Bn,Tr.n],Ef,by simp[Bn,Tr.n],by simp[Bn,Tr.n]⟩
  ·exact⟨by simp[Bn,Tr.n],by simp[Bn,Tr.n],by show(Tr.encs _).length≤_;omega,Ef,by simp[Bn,Tr.n],by simp[Bn,Tr.n]⟩
  ·exact⟨by simp[Bn,Tr.n],by simp[Bn,Tr.n],by simp[Bn,Tr.n],n0,by simp[Bn,Tr.n],by simp[Bn,Tr.n]⟩
  ·show Gn.zz (if _ then _ else _)
   split
   ·exact⟨by simp,by simp,by simp,Ef,Nat.le_trans d1 (by omega),Nat.le_trans d2 (by omega)⟩
   ·exact⟨by simp,by simp,by simp,Ef,by simp,Nat.le_trans d1 (by omega)⟩
  ·exact⟨by simp[Bn,Tr.n],by show(Cm 22 b).length≤_;omega,by simp[Bn,Tr.n],Ef,by simp[Bn,Tr.n],by simp[Bn,Tr.n]⟩
  ·exact⟨by simp[Bn,Tr.n],by simp[Bn,Tr.n],by show b.length≤_;omega,Ef,by simp[Bn,Tr.n],by simp[Bn,Tr.n]⟩
  ·exact⟨Nat.le_trans o1 (by omega),by simp[Bn,Tr.n],by simp[Bn,Tr.n],Ef,by simp[Bn,Tr.n],by simp[Bn,Tr.n]⟩
 ·obtain⟨m,rfl⟩:∃m,n=m+9:=⟨n-9,by omega⟩
  exact⟨by simp[Bn,Tr.n],by simp[Bn,Tr.n],by simp[Bn,Tr.n],Ef,by simp[Bn,Tr.n],by simp[Bn,Tr.n]⟩
theorem vE {g:Gn} (h:g.zz) (hn:(nmE g.nm).length≤200000):((Ec g).getD []).length≤g.oid.length+g.by'.length+4*g.tx.length+(nmE g.nm).length+4*g.av.length+4*g.pv.length+60:=by
 have h1:=iR g.oid
 have:=h.o;have:=h.t;have:=h.b;have:=h.a;have:=h.p
 unfold Ec
 split
 ·split
  ·have h6:=At 0 6 false (Bm g.oid) (by omega)
   have h7:=At 2 0 true g.by' (by omega)
   show(_++_:List UInt8).length≤_
   rw[Ap];omega
  ·simp
 split
 ·split
  ·rename_i hv
   have:=F9 hv
   show(chS 22 g.tx).length≤_
   omega
  ·simp
 split
 ·show g.by'.length≤_;omega
 split
 ·split
  ·show(nmE g.nm).length≤_;omega
  ·simp
 split
 ·unfold L9
  split
  ·rename_i hv
   rw[Aw] at hv
   have l2:=Fx hv.2 h.p
   have x2:=At 2 1 true (txE g.pk g.pv) (by omega)
   show((if _ then _ else _)++_:List UInt8).length≤_
   rw[Ap]
   split
   ·simp;omega
   ·rename_i hz
    have hz:zT g.ak g.av=false:=by simpa using hz
    rw[hz,Bool.false_or] at hv
    have l1:=Fx hv.1 h.a
    have x1:=At 2 0 true (txE g.ak g.av) (by omega)
    omega
  ·simp
 split
 ·split
  ·show(Bm g.oid).length≤_;omega
  ·simp
 ·simp
theorem AC {t:Tr} (h:t.ok) (hl:t.enc.length≤3006):(nmE (Bn t).nm).length≤200000:=by
 obtain⟨a1,a2⟩:=L6 h 0
 have h0:=(vD a1 (by omega)).2
 have hz:(nmE []).length≤200000:=by decide+kernel
 obtain⟨c,n,k,b,ks⟩:=t
 by_cases hn:n≤8
 ·rcases(by omega:n=0∨n=1∨n=2∨n=3∨n=4∨n=5∨n=6∨n=7∨n=8) with rfl|rfl|rfl|rfl|rfl|rfl|rfl|rfl|rfl
  ·exact hz
  ·exact hz
  ·exact hz
  ·exact hz
  ·exact h0
  ·show(nmE (Gn.nm (if _ then _ else _))).length≤_
   split
   ·exact hz
   ·exact hz
  ·exact hz
  ·exact hz
  ·exact hz
 ·obtain⟨m,rfl⟩:∃m,n=m+9:=⟨n-9,by omega⟩
  exact hz
def gD (g:Gn):List D:=[iD g.k,sD g.oid,sD g.tx,Ag false g.by',Nm g.nm,iD g.ak,sD g.av,iD g.pk,sD g.pv]
def vF (l:List Gn):D:=Hk true 9 gD l
theorem AD (g:Gn):D.uns (gD g)=gnC g:=by simp only[gD,gnC,D.uns,Al,Cq,D.un]
theorem D.uns_app (a b:List D):D.uns (a++b)=D.uns a++D.uns b:=by
 induction a with
 |nil=>rfl
 |cons x r ih=>show D.un x::D.uns (r++b)=D.un x::(D.uns r++D.uns b);rw[ih]
theorem R8 (l:List Gn):D.uns (l.flatMap gD)=l.flatMap gnC:=by
 induction l with
 |nil=>rfl
 |cons g r ih=>rw[List.flatMap_cons,D.uns_app,AD,ih,List.flatMap_cons]
theorem Pm (l:List Gn):(vF l).un=Hl l:=by
 show D.sl false l.length 9 (D.uns (l.flatMap gD))=_
 rw[R8];rfl
theorem EN {α:Type} (f:α→Bool) {l:List α} {i:Nat} {x:α} (hg:l[i]?=some x) (hx:f x=false):l.all f=false:=by
 cases hh:l.all f with
 |false=>rfl
 |true=>rw[List.all_eq_true.1 hh x (Bl hg)] at hx;cases hx
theorem AE {b:List UInt8} (hb:b.length≤3000):(D3 b).ok∧(D3 b).enc.length≤3002:=by
 have:=yU b;exact⟨this.1,by omega⟩
theorem Pn {p:Prop} (h:p:=by first|rfl|(simp only[AV.gives,AV.ren,AV.give,D.un,D.uns,Al,Ak,List.nil_append,List.append_nil,List.cons_append,As,A0,Bb,A5,A2,Ba,Bi,Dn,Cq,C9,Cl,Tr.cellss_un,Pm,R8];first|done|rfl)):p:=h
structure gnsZ (l:List Gn):Prop where
 n:l.length≤100000
 z:∀g∈l,Gn.zz g
 e:(l.map gnE).flatten.length≤90000000
def Kc (l:List Gn):Bool:= !l.isEmpty&&l.all gnW
theorem oC (l:List Gn) (hz:gnsZ l):Ab Tryz.prog 25 [.d (Hl l)] (fun r=>r=bv (Kc l)):=by
 obtain⟨hl,hs,-⟩:=hz
 unfold Kc
 refine acQ 19 Tryz.func25 rfl rfl fun _ _ _=> ?_
 (all_goals(conv=>whnf))
 refine A4 (fun i:Nat=>i≤l.length∧(l.take i).all gnW=true) (fun i=>l.length-i) (fun i=>⟨[(0,.d (Hl l)),(3,iv i)],[],[]⟩) 0 ⟨by omega,rfl⟩ leQ ?_
 rintro i ⟨hi,ha⟩
 by_cases hik:i<l.length
 ·have gi:decide ((i:Int)<l.length)=true:=decide_eq_true (by omega)
  obtain⟨x,hg⟩:∃p,l[i]?=some p:=⟨_,Ar hik⟩
  have hV:=Fh x (hs x (Bl hg))
  cases h1:gnW x
  ·rw[h1] at hV
   rw[EN gnW hg h1,Bool.and_false]
   (repeat'((conv=>whnf);first|refine zP ?_|refine Ac ?_|refine NIdx.tab (fun _=>rfl) hg ?_|refine Aa hV Pn ?_|exact zE))
  ·rw[h1] at hV
   (repeat'((conv=>whnf);first|refine zP ?_|refine Af ?_|refine NIdx.tab (fun _=>rfl) hg ?_|refine Aa hV Pn ?_|(with_reducible refine NInt.i64 ?_)));(all_goals(conv=>whnf))
   refine⟨i+1,⟨by omega,H2 gnW hg h1 ha⟩,by omega,?_⟩
   exact leQ
 ·have gi:decide ((i:Int)<l.length)=false:=decide_eq_false (by omega)
  obtain rfl:i=l.length:=by omega
  rw[List.take_length] at ha
  rw[ha,Bool.and_true,show(!l.isEmpty)=decide ((l.length:Int)>0) by cases l with|nil=>rfl|cons a r=>exact(decide_eq_true (by simp only[Ah];omega)).symm]
  (repeat'((conv=>whnf);refine zN ?_));(all_goals(conv=>whnf))
  all_goals exact zE
theorem vG (x:UInt8) (l:List Gn) (hz:gnsZ l) (hv:l.all gnW=true):Ab Tryz.prog 33 [cv x.toNat,.d (Hl l)] (fun r=>r=Be 0 5 (Ju x (l.map gnE).flatten)):=by
 have hU:=F6 x (l.map gnE) (by rw[List.length_map];have:=hz.n;omega) (by have:=hz.e;omega)
 obtain⟨hl,hs,-⟩:=hz
 refine acQ 30 Tryz.func33 rfl rfl fun _ _ _=> ?_
 (all_goals(conv=>whnf))
 refine Bg [.s 5 1 22] (fun i:Nat=>i≤l.length) (fun i=>l.length-i) (fun i=>⟨[(0,cv x.toNat),(1,.d (Hl l)),(5,C9 5 1 22 Fe ((l.take i).map gnE)),(6,iv i)],[],[(5,(((l.take i).map gnE).length,1,22))]⟩) 0 (by omega) leQ ?_
 rintro i hi
 have hml:((l.take i).map gnE).length≤100000:=by rw[List.length_map,Am];omega
 by_cases hik:i<l.length
 ·have gi:decide ((i:Int)<l.length)=true:=decide_eq_true (by omega)
  obtain⟨g,hg⟩:∃p,l[i]?=some p:=⟨_,Ar hik⟩
  have hM:=uZ g (hs g (Bl hg))
  rw[List.all_eq_true.1 hv g (Bl hg)] at hM
  have hM:Ab Tryz.prog 52 [gnA g] (fun r=>r= .tup [Be 0 5 (gnE g),iv 0]):=hM
  have hs1:=Gm gnE hg
  generalize gnE g=e at hM hs1
  (repeat'((conv=>whnf);first|refine zP ?_|refine NIdx.tab (fun _=>rfl) hg ?_|refine Aa hM Pn ?_|refine A9 Fe e ?_|(with_reducible refine NInt.i64 ?_)));(all_goals(conv=>whnf))
  refine⟨i+1,by omega,by omega,?_⟩
  rw[hs1]
  exact leQ
 ·have gi:decide ((i:Int)<l.length)=false:=decide_eq_false (by omega)
  obtain rfl:i=l.length:=by omega
  rw[List.take_length]
  (repeat'((conv=>whnf);first|refine zN ?_|refine Aa hU Pn ?_|exact zE))
theorem oD (t:Tr) (hn:t.ks.length≤100000) (hk:∀k∈t.ks,k.gn):Ab Tryz.prog 58 [trF t] (fun r=>r= .d (vF (t.ks.map Bn))):=by
 obtain⟨c,n,k,b,ks⟩:=t
 rw[Ca]
 simp only[Tr.ks] at hn hk⊢
 refine acQ 22 Tryz.func58 rfl rfl fun _ _ _=> ?_
 (all_goals(conv=>whnf))
 refine Bg [.s 3 9 50] (fun i:Nat=>i≤ks.length) (fun i=>ks.length-i) (fun i=>⟨[(1,.ptr 1 0),(3,C9 3 9 50 gD ((ks.take i).map Bn)),(4,iv i)],[(1,[iv c,iv n,bv k,.d (Ag false b),.d (.sl false ks.length 5 (Tr.cellss false ks))])],[(3,(((ks.take i).map Bn).length,9,50))]⟩) 0 (by omega) leQ ?_
 rintro i hi
 have hml:((ks.take i).map Bn).length≤100000:=by rw[List.length_map,Am];omega
 by_cases hik:i<ks.length
 ·have gi:decide ((i:Int)<ks.length)=true:=decide_eq_true (by omega)
  obtain⟨x,hg⟩:∃p,ks[i]?=some p:=⟨_,Ar hik⟩
  have hR:=vA x (hk x (Bl hg))
  have hs:=Gm Bn hg
  generalize Bn x=a at hR hs
  obtain⟨c',n',k',b',ks'⟩:=x
  rw[Ca] at hR
  (repeat'((conv=>whnf);first|refine zP ?_|(refine Fd hg ?_)|refine Aa hR Pn ?_|refine A9 gD a ?_|(with_reducible refine NInt.i64 ?_)));(all_goals(conv=>whnf))
  refine⟨i+1,by omega,by omega,?_⟩
  rw[hs]
  exact leQ
 ·have gi:decide ((i:Int)<ks.length)=false:=decide_eq_false (by omega)
  obtain rfl:i=ks.length:=by omega
  rw[List.take_length]
  (repeat'((conv=>whnf);refine zN ?_));(all_goals(conv=>whnf))
  all_goals exact zE
theorem vH {t:Tr} (h:t.ok) (hl:t.enc.length≤3006):(Bn t).oid.length≤21*t.enc.length+63∧(Bn t).by'.length≤t.enc.length+2∧(Bn t).tx.length≤4*t.enc.length∧(nmE (Bn t).nm).length≤63*t.enc.length+140∧(Bn t).av.length≤4*t.enc.length+16∧(Bn t).pv.length≤4*t.enc.length+16:=by
 obtain⟨a1,a2⟩:=L6 h 0
 obtain⟨b1,b2⟩:=L6 h 1
 have p0:=t.parts
 have p1:=(t.kid 1).parts
 have v0:=Mc h 0
 have v1:=Mc a1 0
 have v2:=Mc b1 0
 have n0:=EM a1 (by omega)
 have o0:=Pf (t.kid 0).v
 have o1:=Pf t.v
 have d0:=Im 22 t.v
 have d1:=Im ((t.kid 0).kid 0).n ((t.kid 0).kid 0).v
 have d2:=Im ((t.kid 1).kid 0).n ((t.kid 1).kid 0).v
 have hz:(nmE []).length=2:=by decide+kernel
 have z0:([]:List UInt8).length=0:=rfl
 obtain⟨c,n,k,b,ks⟩:=t
 generalize he:(Tr.mk c n k b ks).enc.length=e at*
 by_cases hn:n≤8
 ·rcases(by omega:n=0∨n=1∨n=2∨n=3∨n=4∨n=5∨n=6∨n=7∨n=8) with rfl|rfl|rfl|rfl|rfl|rfl|rfl|rfl|rfl
  case inr.inr.inr.inr.inr.inl=>
   rw[show Bn (.mk c 5 k b ks)=if isT ((Tr.mk c 5 k b ks).kid 0) 2 0 true then⟨5,[],[],[],[],Nb (((Tr.mk c 5 k b ks).kid 0).kid 0),Nc (((Tr.mk c 5 k b ks).kid 0).kid 0),Nb (((Tr.mk c 5 k b ks).kid 1).kid 0),Nc (((Tr.mk c 5 k b ks).kid 1).kid 0)⟩ else⟨5,[],[],[],[],0,[],Nb (((Tr.mk c 5 k b ks).kid 0).kid 0),Nc (((Tr.mk c 5 k b ks).kid 0).kid 0)⟩ from rfl]
   split
   ·exact⟨Nat.le_trans (Nat.le_of_eq z0) (by omega),Nat.le_trans (Nat.le_of_eq z0) (by omega),Nat.le_trans (Nat.le_of_eq z0) (by omega),Nat.le_trans (Nat.le_of_eq hz) (by omega),Nat.le_trans d1 (by omega),Nat.le_trans d2 (by omega)⟩
   ·exact⟨Nat.le_trans (Nat.le_of_eq z0) (by omega),Nat.le_trans (Nat.le_of_eq z0) (by omega),Nat.le_trans (Nat.le_of_eq z0) (by omega),Nat.le_trans (Nat.le_of_eq hz) (by omega),Nat.le_trans (Nat.le_of_eq z0) (by omega),Nat.le_trans d1 (by omega)⟩
  all_goals(refine⟨?_,?_,?_,?_,?_,?_⟩<;>first|exact Nat.le_trans o0 (by omega)|exact Nat.le_trans o1 (by omega)|exact Nat.le_trans d0 (by omega)|exact Nat.le_trans n0 (by omega)|exact Nat.le_trans (Nat.le_of_eq hz) (by omega)|exact Nat.le_trans (Nat.le_of_eq z0) (by omega)|(show(Tr.encs _).length≤_;omega)|(show b.length≤_;simp only[Tr.v] at p0;omega))
 ·obtain⟨m,rfl⟩:∃m,n=m+9:=⟨n-9,by omega⟩
  refine⟨?_,?_,?_,?_,?_,?_⟩<;>first|exact Nat.le_trans (Nat.le_of_eq hz) (by omega)|exact Nat.le_trans (Nat.le_of_eq z0) (by omega)
theorem vI {t:Tr} (h:t.ok) (hl:t.enc.length≤3006):(gnE (Bn t)).length≤400*t.enc.length:=by
 obtain⟨q1,q2,q3,q4,q5,q6⟩:=vH h hl
 have hc:=vE (jO h hl) (AC h hl)
 have he:=t.enc_two
 have:=At 2 (Bn t).k.toNat (Dy (Bn t).k) ((Ec (Bn t)).getD []) (by omega)
 unfold gnE;omega
theorem Dh (c n:Nat) (k:Bool) (l:List UInt8):l.length+2≤(Ai c n k l).length:=by
 have:=Wu l.length
 unfold Ai;rw[Ew];omega
theorem Po {α:Type} (f:α→List UInt8) (k:Nat):∀{l:List α},(∀x∈l,k≤(f x).length)→k*l.length≤(l.map f).flatten.length
 |[],_=>by simp
 |x::r,h=>by
  have h1:=h x (by simp)
  have h2:=Po f k (l:=r) fun y hy=>h y (by simp[hy])
  rw[List.map_cons,List.flatten_cons,Ap,Ah,Nat.mul_add];omega
theorem FZ {a:Att} (h:atV a=true) (hl:(atE a).length≤400000):a.sm∧4≤(atE a).length:=by
 obtain⟨h1,-⟩:=R4 h
 have h3:=T4 h1
 have h4:=Dh 0 6 false (Bm a.oid)
 have h5:=Dh 0 16 true (Ai 0 6 false (Bm a.oid)++a.val)
 rw[Ap] at h5
 have e:(atE a).length=(Ai 0 16 true (Ai 0 6 false (Bm a.oid)++a.val)).length:=rfl
 exact⟨⟨by omega,by omega⟩,by omega⟩
theorem EO {r:List Att} (h:Fp r=true) (hl:(Cu r).length≤400000):rdnZ r∧4≤(Cu r).length:=by
 obtain⟨h0,h1,-⟩:=R5 h
 have h2:=Dh 0 17 true (r.map atE).flatten
 have e:(Cu r).length=(Ai 0 17 true (r.map atE).flatten).length:=rfl
 have h3:∀a∈r,a.sm∧4≤(atE a).length:=fun a ha=>by
  have:=Hg (List.mem_map_of_mem (f:=atE) ha)
  exact FZ (List.all_eq_true.1 h1 a ha) (by omega)
 have h4:=Po atE 4 fun a ha=>(h3 a ha).2
 have h5:1≤r.length:=by cases r with|nil=>exact absurd rfl h0|cons _ _=>simp
 exact⟨⟨by omega,fun a ha=>(h3 a ha).1,by omega⟩,by omega⟩
theorem GA {n:List (List Att)} (h:nmV n=true) (hl:(nmE n).length≤400000):nmZ n:=by
 have h2:=Dh 0 16 true (n.map Cu).flatten
 have e:(nmE n).length=(Ai 0 16 true (n.map Cu).flatten).length:=rfl
 have h3:∀r∈n,rdnZ r∧4≤(Cu r).length:=fun r hr=>by
  have:=Hg (List.mem_map_of_mem (f:=Cu) hr)
  exact EO (List.all_eq_true.1 h r hr) (by omega)
 have h4:=Po Cu 4 fun r hr=>(h3 r hr).2
 exact⟨by omega,fun r hr=>(h3 r hr).1,by omega⟩
theorem vJ {k:Int} {l:List UInt8} (h:Ao k l=true):l.length≤4*(chS k l).length:=by
 have:=Im k (chS k l)
 rwa[(Ql h).2.1] at this
theorem vK {k:Int} {l:List UInt8} (h:Ao k l=true):l.length≤4*(txE k l).length:=by
 have h1:=vJ h
 have h2:=Dh 0 k.toNat false (chS k l)
 unfold txE;omega
theorem AF {g:Gn} (h:gnW g=true) (hl:(gnE g).length≤400000):g.mid:=by
 obtain⟨h1,-,⟨c,h3⟩,h4⟩:=(M3 g).1 h
 have hc:c.length≤400000:=by
  have:=Dh 2 g.k.toNat (Dy g.k) ((Ec g).getD [])
  have e:(gnE g).length=(Ai 2 g.k.toNat (Dy g.k) ((Ec g).getD [])).length:=rfl
  rw[h3] at this e
  have e2:((some c).getD [])=c:=rfl
  rw[e2] at this e;omega
 refine⟨?_,by rw[h3];show c.length≤_;omega⟩
 obtain⟨m,hm,hk⟩:=N9 h3
 obtain⟨k,oid,tx,by',nm,ak,av,pk,pv⟩:=g
 rw[Dw] at h1
 obtain⟨a1,a2,a3,a4,a5⟩:=h1
 simp only at hk a1 a2 a3 a4 a5
 subst hk
 unfold Ec at h3
 simp only at h3
 have l0:([]:List UInt8).length=0:=rfl
 rcases(by omega:m=0∨m=1∨m=2∨m=3∨m=4∨m=5∨m=6∨m=7∨m=8) with rfl|rfl|rfl|rfl|rfl|rfl|rfl|rfl|rfl
 ·obtain rfl:tx=[]:=by simpa using a2
  obtain rfl:nm=[]:=by simpa using a4
  obtain⟨⟨rfl,rfl⟩,rfl,rfl⟩:(ak=0∧av=[])∧pk=0∧pv=[]:=by simpa using a5
  rw[if_pos (by rfl)] at h3
  by_cases ho:Es oid=true
  ·rw[if_pos ho] at h3
   obtain rfl:=Option.some.inj h3
   have:=T4 ho
   have:=Dh 0 6 false (Bm oid)
   have:=Dh 2 0 true by'
   rw[Ap] at hc
   exact⟨by show oid.length≤_;omega,by simp,by show by'.length≤_;omega,Ef,by simp,by simp⟩
  ·rw[if_neg ho] at h3;cases h3
 case inr.inr.inr.inl=>
  obtain rfl:oid=[]:=by simpa using a1
  obtain rfl:tx=[]:=by simpa using a2
  obtain rfl:nm=[]:=by simpa using a4
  obtain⟨⟨rfl,rfl⟩,rfl,rfl⟩:(ak=0∧av=[])∧pk=0∧pv=[]:=by simpa using a5
  rw[if_neg (by decide),if_neg (by decide),if_pos (by decide)] at h3
  obtain rfl:=Option.some.inj h3
  exact⟨by simp,by simp,by show by'.length≤_;omega,Ef,by simp,by simp⟩
 case inr.inr.inr.inr.inl=>
  obtain rfl:oid=[]:=by simpa using a1
  obtain rfl:tx=[]:=by simpa using a2
  obtain rfl:by'=[]:=by simpa using a3
  obtain⟨⟨rfl,rfl⟩,rfl,rfl⟩:(ak=0∧av=[])∧pk=0∧pv=[]:=by simpa using a5
  rw[if_neg (by decide),if_neg (by decide),if_neg (by decide),if_pos (by rfl)] at h3
  by_cases ho:nmV nm=true
  ·rw[if_pos ho] at h3
   obtain rfl:=Option.some.inj h3
   exact⟨by simp,by simp,by simp,GA ho hc,by simp,by simp⟩
  ·rw[if_neg ho] at h3;cases h3
 case inr.inr.inr.inr.inr.inl=>
  obtain rfl:oid=[]:=by simpa using a1
  obtain rfl:tx=[]:=by simpa using a2
  obtain rfl:by'=[]:=by simpa using a3
  obtain rfl:nm=[]:=by simpa using a4
  rw[if_neg (by decide),if_neg (by decide),if_neg (by decide),if_neg (by decide),if_pos (by rfl)] at h3
  unfold L9 at h3
  simp only at h3
  by_cases hh:((zT ak av||Ao ak av)&&Ao pk pv)=true
  ·rw[if_pos hh] at h3
   obtain rfl:=Option.some.inj h3
   rw[Aw,Bool.or_eq_true] at hh
   have k1:=vK hh.2
   have k2:=Dh 2 1 true (txE pk pv)
   rw[Ap] at hc
   refine⟨by simp,by simp,by simp,Ef,?_,by show pv.length≤_;omega⟩
   show av.length≤_
   by_cases hz:zT ak av=true
   ·rw[(Qm.1 hz).2];simp
   ·rw[if_neg hz] at hc
    have k3:=vK (hh.1.resolve_left hz)
    have k4:=Dh 2 0 true (txE ak av)
    omega
  ·rw[if_neg hh] at h3;cases h3
 case inr.inr.inr.inr.inr.inr.inr.inl=>
  obtain rfl:oid=[]:=by simpa using a1
  obtain rfl:tx=[]:=by simpa using a2
  obtain rfl:nm=[]:=by simpa using a4
  obtain⟨⟨rfl,rfl⟩,rfl,rfl⟩:(ak=0∧av=[])∧pk=0∧pv=[]:=by simpa using a5
  rw[if_neg (by decide),if_neg (by decide),if_pos (by decide)] at h3
  obtain rfl:=Option.some.inj h3
  exact⟨by simp,by simp,by show by'.length≤_;omega,Ef,by simp,by simp⟩
 case inr.inr.inr.inr.inr.inr.inr.inr=>
  obtain rfl:tx=[]:=by simpa using a2
  obtain rfl:by'=[]:=by simpa using a3
  obtain rfl:nm=[]:=by simpa using a4
  obtain⟨⟨rfl,rfl⟩,rfl,rfl⟩:(ak=0∧av=[])∧pk=0∧pv=[]:=by simpa using a5
  rw[if_neg (by decide),if_neg (by decide),if_neg (by decide),if_neg (by decide),if_neg (by decide),if_pos (by rfl)] at h3
  by_cases ho:Es oid=true
  ·rw[if_pos ho] at h3
   obtain rfl:=Option.some.inj h3
   have:=T4 ho
   exact⟨by show oid.length≤_;omega,by simp,by simp,Ef,by simp,by simp⟩
  ·rw[if_neg ho] at h3;cases h3
 all_goals
  obtain rfl:oid=[]:=by simpa using a1
  obtain rfl:by'=[]:=by simpa using a3
  obtain rfl:nm=[]:=by simpa using a4
  obtain⟨⟨rfl,rfl⟩,rfl,rfl⟩:(ak=0∧av=[])∧pk=0∧pv=[]:=by simpa using a5
  rw[if_neg (by decide),if_pos (by decide)] at h3
  by_cases ho:Ao 22 tx=true
  ·rw[if_pos ho] at h3
   obtain rfl:=Option.some.inj h3
   have:=vJ ho
   exact⟨by simp,by show tx.length≤_;omega,by simp,Ef,by simp,by simp⟩
  ·rw[if_neg ho] at h3;cases h3
theorem cH {l:List Gn} (h:l.all gnW=true) (hl:(l.map gnE).flatten.length≤400000):gnsM l:=by
 have hm:∀g∈l,g.mid:=fun g hg=>by
  have:=Hg (List.mem_map_of_mem (f:=gnE) hg)
  exact AF (List.all_eq_true.1 h g hg) (by omega)
 have h4:=Po gnE 2 (l:=l) fun g _=>by
  have:=Dh 2 g.k.toNat (Dy g.k) ((Ec g).getD [])
  unfold gnE;omega
 exact⟨by omega,hm,by omega⟩
def cI (g:Gn):List D:=[iD g.k,sD g.oid,sD g.tx,Ag true g.by',Nm g.nm,iD g.ak,sD g.av,iD g.pk,sD g.pv]
def Y0 (l:List Gn):D:=Hk true 9 cI l
theorem R9 (g:Gn):D.uns (cI g)=gnC g:=by simp only[cI,gnC,D.uns,Al,Cq,D.un]
theorem Sa (l:List Gn):D.uns (l.flatMap cI)=l.flatMap gnC:=by
 induction l with
 |nil=>rfl
 |cons g r ih=>rw[List.flatMap_cons,D.uns_app,R9,ih,List.flatMap_cons]
theorem Pp (l:List Gn):(Y0 l).un=Hl l:=by
 show D.sl false l.length 9 (D.uns (l.flatMap cI))=_
 rw[Sa];rfl
theorem jP {l:List Gn} (h:∀g∈l,g.mid):Ys l=Kc l:=by
 unfold Ys Kc
 congr 1
 induction l with
 |nil=>rfl
 |cons a r ih=>rw[List.all_cons,List.all_cons,DH (h a (by simp)),ih fun g hg=>h g (by simp[hg])]
theorem vL {l:List Gn}:Kc l=true↔l≠[]∧l.all gnW=true:=by
 unfold Kc
 cases l<;>simp
theorem gE (l:List Gn) (h:gnsM l):Ab Tryz.prog 29 [.d (Hl l)] (fun r=>r=Qk (Kc l) (Rj l)):=by
 have hM:=Rc l h
 rwa[jP h.m] at hM
theorem gF (l:List Gn) (h:gnsM l):Ab Tryz.prog 35 [.d (Hl l)] (fun r=>r=bv (Kc l)):=by
 have hM:=bT l h
 rwa[jP h.m] at hM
theorem EP {g:Gn} (h:gnW g=true) (hs:g.mid):∃t:Tv,t.ok∧gnE g=t.enc:=by
 obtain⟨-,-,⟨c,h3⟩,-⟩:=(M3 g).1 h
 obtain⟨n,hn,hk⟩:=N9 h3
 exact⟨⟨2,g.k.toNat,Dy g.k,(Ec g).getD []⟩,⟨by show(2:Nat)≤3;omega,by show g.k.toNat≤30;omega,by have:=hs.c;show((Ec g).getD []).length≤_;omega⟩,rfl⟩
theorem AG {l:List Gn} (h:l.all gnW=true) (hs:gnsM l) (c n:Nat) (hc:c≤3) (hn:n≤30):∃ks,okT 21 (Ai c n true (l.map gnE).flatten) (.mk c n true [] ks)∧ks.map Bn=l:=by
 have hm:∀p∈l.map gnE,One 20 p∧p.length≤2147483647:=fun p hp=>by
  obtain⟨g,hg,rfl⟩:=List.mem_map.1 hp
  obtain⟨t,h1,-⟩:=uU (List.all_eq_true.1 h g hg) (hs.m g hg)
  have:=zA (hs.m g hg)
  exact⟨h1.1,by omega⟩
 have:=hs.e
 obtain⟨c1,c2⟩:=M2 (d:=20) (c:=c) (n:=n) (l.map gnE) hc hn hm (by omega)
 refine⟨_,⟨c1,c2⟩,?_⟩
 rw[List.map_map,List.map_map]
 conv=>rhs;rw[←List.map_id l]
 exact List.map_congr_left fun g hg=>by
  obtain⟨t,h1,h2,-⟩:=uU (List.all_eq_true.1 h g hg) (hs.m g hg)
  show Bn (trD 20 (gnE g))=g
  rw[h1.2];exact h2
def gpS:List (List UInt8)→Option (List Gn)
 |[]=>some []
 |p::r=>match K5 p with
  |none=>none
  |some g=>(gpS r).map (g:: ·)
def gpL (b:List UInt8):List El→Option (List Gn)×Nat×Nat
 |[]=>(some [],0,0)
 |x::r=>match K5 (elO b x) with
  |none=>(none,(Uk (elO b x)).1,x.at'+(Uk (elO b x)).2)
  |some g=>match gpL b r with
   |(some gs,_)=>(some (g::gs),0,0)
   |(none,p)=>(none,p)
def Uv (ms:List Gn):Option (List Gn)×Nat×Nat→Option (List Gn)×Nat×Nat
 |(some r,_)=>(some (ms++r),0,0)
 |(none,p)=>(none,p)
theorem Uw (b:List UInt8):∀l:List El,(gpL b l).1.isSome=true→(gpL b l).2=(0,0)
 |[],_=>rfl
 |x::r,h=>by
  rw[gpL] at h⊢
  cases hv:K5 (elO b x) with
  |none=>rw[hv] at h;cases h
  |some m=>
   rw[hv] at h
   cases hp:gpL b r with
   |mk o p=>rw[hp] at h;cases o with
    |none=>cases h
    |some ms=>rfl
theorem oE (b:List UInt8) (l:List El):Uv [] (gpL b l)=gpL b l:=by
 have h:=Uw b l
 cases hp:gpL b l with
 |mk o p=>
  rw[hp] at h
  cases o with
  |none=>rfl
  |some ms=>have:=h rfl;simp only at this;subst this;rfl
theorem gG {b:List UInt8} {x:El} {r:List El} {m:Gn} (ms:List Gn) (hv:K5 (elO b x)=some m):Uv ms (gpL b (x::r))=Uv (ms++[m]) (gpL b r):=by
 rw[gpL,hv]
 cases hp:gpL b r with
 |mk o p=>cases o with
  |none=>rfl
  |some l=>simp[Uv]
theorem Y1 (b:List UInt8):∀l:List El,(gpL b l).1=gpS (l.map (elO b))
 |[]=>rfl
 |x::r=>by
  have ih:=Y1 b r
  rw[gpL,List.map_cons,gpS]
  cases hv:K5 (elO b x) with
  |none=>rfl
  |some m=>
   simp only
   rw[←ih]
   cases hp:gpL b r with
   |mk o p=>cases o<;>rfl
theorem jQ {b:List UInt8}:∀{l:List El},(∀x∈l,x.at'≤x.stop∧x.stop≤b.length)→(gpL b l).1=none→(gpL b l).2.1≠0∧(gpL b l).2.2≤b.length
 |[],_,h=>by cases h
 |x::r,hx,h=>by
  have ih:=jQ (b:=b) (l:=r) fun y hy=>hx y (by simp[hy])
  rw[gpL] at h⊢
  cases hv:K5 (elO b x) with
  |none=>
   obtain⟨e1,e2⟩:=Yr (elO b x)
   have:=Ug b x
   obtain⟨x1,x2⟩:=hx x (by simp)
   exact⟨e1,by show x.at'+_≤_;omega⟩
  |some m=>
   rw[hv] at h
   cases hp:gpL b r with
   |mk o p=>
    rw[hp] at h ih
    cases o with
    |none=>exact ih rfl
    |some ms=>cases h
theorem jR:∀{v:List Gn},v.all gnW=true→(∀m∈v,m.mid)→gpS (v.map gnE)=some v
 |[],_,_=>rfl
 |m::r,h,hs=>by
  rw[List.all_cons,Aw] at h
  rw[List.map_cons,gpS,bY h.1 (hs m (by simp)),jR h.2 fun k hk=>hs k (by simp[hk])];rfl
theorem jS:∀{ps:List (List UInt8)} {v:List Gn},(∀p∈ps,p.length≤800000)→gpS ps=some v→v.all gnW=true∧ps=v.map gnE
 |[],v,_,h=>by
  rw[gpS] at h
  obtain rfl:=Option.some.inj h
  exact⟨rfl,rfl⟩
 |p::r,v,hl,h=>by
  rw[gpS] at h
  cases hv:K5 p with
  |none=>rw[hv] at h;cases h
  |some m=>
   rw[hv] at h
   cases hr:gpS r with
   |none=>rw[hr] at h;cases h
   |some w=>
    rw[hr] at h
    obtain rfl:=Option.some.inj h
    obtain⟨k1,k2⟩:=tY hv (hl p (by simp))
    obtain⟨k3,k4⟩:=jS (fun q hq=>hl q (by simp[hq])) hr
    exact⟨by rw[List.all_cons,k1,k3];rfl,by rw[List.map_cons,←k2,←k4]⟩
def Y2 (b:List UInt8):Option (List Gn)×Nat×Nat:=
 if(Bd b 0 16).code≠0 then(none,(Bd b 0 16).code,(Bd b 0 16).off) else if(Bd b 0 16).l=[] then(none,1,b.length) else gpL b (Bd b 0 16).l
def GP:Option (List Gn)×Nat×Nat→AV
 |(some gs,_)=> .tup [.d (Y0 gs),erA 0 0]
 |(none,c,p)=> .tup [Bc,erA c p]
theorem jT (b:List UInt8) (hb:b.length≤800000):(∃v:List Gn,v≠[]∧v.all gnW=true∧b=Rj v∧Y2 b=(some v,0,0))∨(∃c o:Nat,c≠0∧o≤b.length∧Y2 b=(none,c,o)):=by
 unfold Y2
 by_cases h1:(Bd b 0 16).code≠0
 ·rw[if_pos h1]
  exact .inr ⟨_,_,h1,Ik b 0 16,rfl⟩
 rw[if_neg h1]
 have h1':=Decidable.not_not.1 h1
 obtain⟨ts,t1,t2,-,-,-⟩:=J7 h1'
 have hlt:(C0 ts).length≤800000:=by
  have:=congrArg List.length t2
  unfold Ai at this
  rw[Ew] at this;omega
 obtain⟨q,e1,e2⟩:=F8 (c:=0) (n:=16) ts (by omega) (by omega) t1 (by omega)
 rw[←t2] at e1 e2
 rw[e1]
 by_cases h2:els q ts=[]
 ·rw[if_pos h2];exact .inr ⟨1,b.length,by omega,Nat.le_refl _,rfl⟩
 rw[if_neg h2]
 have hf:=Y1 b (els q ts)
 rw[e2] at hf
 have hoff:=jQ (b:=b) (l:=els q ts) fun x hx=>by
  have:=Em (b:=b) (c:=0) (n:=16) (x:=x) (by rw[e1];exact hx)
  omega
 have hz:=Uw b (els q ts)
 show(∃v:List Gn,v≠[]∧v.all gnW=true∧b=Rj v∧gpL b (els q ts)=(some v,0,0))∨(∃c o:Nat,c≠0∧o≤b.length∧gpL b (els q ts)=(none,c,o))
 cases hp:gpL b (els q ts) with
 |mk o p=>
  rw[hp] at hf hoff hz
  obtain⟨c,p⟩:=p
  simp only at hf hoff hz
  cases o with
  |none=>exact .inr ⟨c,p,(hoff rfl).1,(hoff rfl).2,rfl⟩
  |some v=>
   obtain⟨k1,k2⟩:=jS (fun p hp=>by
    have:=Hg hp
    rw[←Ff] at this;omega) hf.symm
   have hz:=hz rfl
   simp only[Prod.mk.injEq] at hz
   obtain⟨rfl,rfl⟩:=hz
   refine .inl ⟨v,?_,k1,?_,rfl⟩
   ·rintro rfl
    cases ts with
    |nil=>exact h2 rfl
    |cons t r=>simp at k2
   ·rw[t2]
    unfold Rj
    rw[Ff,k2]
theorem EQ {v:List Gn} (h:v.all gnW=true) (hs:gnsM v):∃ts:List Tv,(∀t∈ts,t.ok)∧v.map gnE=ts.map Tv.enc:=
 R2 fun p hp=>by
  obtain⟨m,hm,rfl⟩:=List.mem_map.1 hp
  exact EP (List.all_eq_true.1 h m hm) (hs.m m hm)
theorem AH {v:List Gn} (h0:v≠[]) (h:v.all gnW=true) (hs:gnsM v):Y2 (Rj v)=(some v,0,0):=by
 obtain⟨ts,t1,t2⟩:=EQ h hs
 have hfl:(v.map gnE).flatten=C0 ts:=by rw[t2,Ff]
 have:=hs.e
 obtain⟨q,e1,e2⟩:=F8 (c:=0) (n:=16) ts (by omega) (by omega) t1 (by rw[←hfl];omega)
 have hf:=Y1 (Ai 0 16 true (C0 ts)) (els q ts)
 rw[e2,←t2,jR h hs.m] at hf
 unfold Y2 Rj
 rw[hfl,e1,if_neg (by simp),if_neg (by
  intro e
  have:=congrArg List.length e
  rw[Yi] at this
  have h3:=congrArg List.length t2
  rw[List.length_map,List.length_map] at h3
  exact h0 (List.eq_nil_of_length_eq_zero (by rw[h3];exact this)))]
 have hz:=Uw (Ai 0 16 true (C0 ts)) (els q ts) (by rw[hf];rfl)
 exact Prod.ext hf hz
theorem Pq {p:Prop} (h:p:=by first|rfl|(simp only[AV.gives,AV.ren,AV.give,D.un,D.uns,Al,Ak,List.nil_append,List.append_nil,List.cons_append,As,A0,Bb,A5,A2,Ba,Bi,Dn,Cq,C9,Cl,Pp,R9,Sa,Ep,Er];first|done|rfl)):p:=h
theorem cJ (b:List UInt8) (hb:b.length≤800000):Ab Tryz.prog 40 [.d (Ag false b)] (fun r=>r=GP (Y2 b)):=by
 have hP:=Jw b 0 16 (by omega)
 have hin:=fun x=>Em (b:=b) (c:=0) (n:=16) (x:=x)
 have hcn:=N7 b 0 16
 unfold Y2
 generalize Bd b 0 16=R at hP hin hcn⊢
 by_cases h1:R.code≠0
 ·rw[if_pos h1]
  rw[lrA,if_pos h1] at hP
  have gc:((R.code:Int) !=0)=true:=by rw[bne_iff_ne];omega
  generalize R.code=c at hP gc
  generalize R.off=o at hP
  refine acQ 60 Tryz.func40 rfl rfl fun _ _ _=> ?_
  (repeat'((conv=>whnf);first|refine zP ?_|refine Aa hP Pq ?_|refine zF ?_|exact zE))
 rw[if_neg h1]
 rw[lrA,if_neg h1] at hP
 generalize R.l=l at hP hin hcn⊢
 by_cases h2:l=[]
 ·subst h2
  rw[if_pos rfl]
  refine acQ 60 Tryz.func40 rfl rfl fun _ _ _=> ?_
  (repeat'((conv=>whnf);first|refine Ac ?_|refine Af ?_|refine Aa hP Pq ?_|exact zE))
 rw[if_neg h2]
 have gl:((l.length:Int)==0)=false:=by rw[beq_eq_false_iff_ne];intro h;exact h2 (List.eq_nil_of_length_eq_zero (by omega))
 have hd0:gpL b l=Uv [] (gpL b (l.drop 0)):=by rw[oE,List.drop_zero]
 generalize hQ:gpL b l=q at hd0⊢
 refine acQ 60 Tryz.func40 rfl rfl fun _ _ _=> ?_
 (repeat'((conv=>whnf);first|refine zN ?_|refine Af ?_|refine Aa hP Pq ?_));(all_goals(conv=>whnf))
 refine Bg [.s 6 9 50] (fun z:Nat×List Gn=>z.1≤l.length∧z.2.length≤z.1∧q=Uv z.2 (gpL b (l.drop z.1))) (fun z=>l.length-z.1) (fun z=>⟨[(0,.d (Ag false b)),(3,.ptr 3 0),(6,C9 6 9 50 cI z.2),(26,.d (fB l)),(27,iv l.length),(28,iv z.1)],[(3,[iv 0,iv 0])],[(6,(z.2.length,9,50))]⟩) (0,[]) ⟨by simp,by simp,hd0⟩ leQ ?_
 rintro⟨i,ms⟩ ⟨hi,hm,he⟩
 simp only at hi hm he
 by_cases hik:i<l.length
 ·have gi:decide ((i:Int)<l.length)=true:=decide_eq_true (by omega)
  obtain⟨x,hg⟩:∃p,l[i]?=some p:=⟨_,Ar hik⟩
  obtain⟨x1,x2,x3⟩:=hin x (Bl hg)
  have hel:=R6 b x
  have hO:=Um (elO b x) (by omega)
  obtain⟨hc0,hof⟩:=Yr (elO b x)
  rw[Qh hg] at he
  cases hp:K5 (elO b x) with
  |none=>
   have bad:q=(none,(Uk (elO b x)).1,x.at'+(Uk (elO b x)).2):=by rw[he,gpL,hp];rfl
   rw[bad]
   rw[hp] at hO
   generalize Uk (elO b x)=e at hO hc0 hof
   obtain⟨c,o⟩:=e
   simp only at hc0 hof
   have hO:Ab Tryz.prog 55 [.d (Ag false (elO b x))] (fun r=>r= .tup [gnQ gz,erA c o]):=hO
   have gc:((c:Int) !=0)=true:=by rw[bne_iff_ne];omega
   unfold elO at hO
   (repeat'((conv=>whnf);first|refine zP ?_|refine NIdx.tab (fun _=>rfl) hg ?_|refine NSl.slice (x.at') (x.stop) ?_|refine Aa hO Pq ?_|(with_reducible refine NInt.i64 ?_)|refine zF ?_|exact zE))
  |some g=>
   rw[gG ms hp] at he
   rw[hp] at hO
   have hO:Ab Tryz.prog 55 [.d (Ag false (elO b x))] (fun r=>r= .tup [gnQ g,erA 0 0]):=hO
   unfold elO at hO
   (repeat'((conv=>whnf);first|refine zP ?_|refine Af ?_|refine NIdx.tab (fun _=>rfl) hg ?_|refine NSl.slice (x.at') (x.stop) ?_|refine Aa hO Pq ?_|refine A9 cI g ?_|(with_reducible refine NInt.i64 ?_)));(all_goals(conv=>whnf))
   refine⟨(i+1,ms++[g]),⟨by show i+1≤_;omega,by simp;omega,he⟩,by show l.length-(i+1)<l.length-i;omega,?_⟩
   exact leQ
 ·have gi:decide ((i:Int)<l.length)=false:=decide_eq_false (by omega)
  obtain rfl:i=l.length:=by omega
  rw[List.drop_length,gpL] at he
  have he':q=(some ms,0,0):=by rw[he];simp[Uv]
  subst he'
  (repeat'((conv=>whnf);refine zN ?_));(all_goals(conv=>whnf))
  all_goals exact zE
theorem Ke {b:Bool} {A B:Prop} (h:b=true) (ha:A):(bif b then A else B):=by subst h;exact ha
theorem oF (n:List (List Att)):(Nm n).fresh=true:=
 P5 1 fun r _=>by
  show((fY r).fresh&&true)=true
  rw[Bool.and_true]
  exact P5 2 fun a _=>by
   show(true&&((Ag true a.val).fresh&&true))=true
   rw[Iy];rfl
theorem gH (g:Gn):D.freshs (cI g)=true:=by
 show(true&&(true&&(true&&((Ag true g.by').fresh&&((Nm g.nm).fresh&&(true&&(true&&(true&&(true&&true)))))))))=true
 rw[Iy,oF];rfl
theorem gI (l:List Gn):(Y0 l).fresh=true:=P5 9 fun g _=>gH g
def Me (i:Nat) (b:List UInt8):List UInt8:=(b.take i).map (fun x=>UInt8.ofNat (x.toNat+1))++b.drop i
theorem Pr (i:Nat) (b:List UInt8):(Me i b).length=b.length:=by
 unfold Me
 rw[Ap,List.length_map,Am,Az];omega
theorem Ux {i:Nat} {b:List UInt8} {x:UInt8} (h:b[i]?=some x):(Me i b)[i]?=some x:=by
 have hi:=(A1.1 h).1
 unfold Me
 rw[List.getElem?_append_right (by rw[List.length_map,Am];omega),List.length_map,Am,List.getElem?_drop,←h]
 congr 1;omega
theorem Ps {i:Nat} {b:List UInt8} {x:UInt8} (h:b[i]?=some x):(Me i b).set i (UInt8.ofNat (x.toNat+1))=Me (i+1) b:=by
 obtain⟨hi,he⟩:=A1.1 h
 unfold Me
 have hl:((b.take i).map fun x=>UInt8.ofNat (x.toNat+1)).length=i:=by rw[List.length_map,Am];omega
 rw[List.set_append_right _ _ (by omega),hl,Nat.sub_self,List.take_succ_eq_append_getElem hi,List.map_append,he,List.append_assoc,List.drop_eq_getElem_cons hi]
 rfl
end Go.Proofs.YtgamacmidohpfaaGreatDoor
