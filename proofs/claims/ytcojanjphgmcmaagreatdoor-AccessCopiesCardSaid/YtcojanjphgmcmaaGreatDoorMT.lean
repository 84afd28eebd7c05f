/- MT: the texts Rz R13P GenS GenW Frz2, one behind the other. No condition but what each lemma says. -/
import Derived.Test.YtcojanjphgmcmaaGreatDoorMS
import Derived.Test.YtcojanjphgmcmaaGreatDoorMM
import Derived.Test.YtcojanjphgmcmaaGreatDoorMI
import Derived.Test.YtcojanjphgmcmaaGreatDoorMH
import Derived.Test.YtcojanjphgmcmaaGreatDoorMC
set_option maxRecDepth 100000
set_option maxHeartbeats 16000000
namespace Go.Proofs.YtcojanjphgmcmaaGreatDoor
open Go.RowKit
theorem H8 (k:Int) (c:List UInt8):(Bq k c).length≤4*c.length:=by
 unfold Bq
 split
 ·simp
 split
 ·unfold Eh
  split
  ·omega
  ·have:=Ig (Ai k).toNat c (c.length/(Ai k).toNat)
   have:=Nat.div_le_self c.length (Ai k).toNat
   omega
 ·simp
theorem Uo {f:Tr→List UInt8} {C:Nat}:∀{l:List Tr},(∀k∈l,(f k).length≤C*k.enc.length)→(l.map f).flatten.length≤C*(Tr.encs l).length
 |[],_=>by simp
 |x::r,h=>by
  have h1:=h x (by simp)
  have h2:=Uo (f:=f) (C:=C) (l:=r) fun k hk=>h k (by simp[hk])
  rw[List.map_cons,List.flatten_cons,List.length_append,Tr.encs,List.length_append,Nat.mul_add];omega
theorem zW (t:Tr) (i:Nat):(Yx t i).length≤t.enc.length:=by
 unfold Yx
 split
 ·rename_i k hk
  have:=Tr.mem_le (List.mem_of_getElem? hk)
  have:=t.parts;omega
 ·simp
theorem J2 {t:Tr} (h:t.ok) (i:Nat):(t.kid i).v.length≤t.enc.length+2:=by
 have:=(H6 h i).2;have:=(t.kid i).parts;omega
theorem Nc {t:Tr} (h:t.ok):∀k∈t.ks,k.ok∧k.enc.length≤t.enc.length:=fun k hk=>
 ⟨Tr.oks_mem (Tr.ok_ks h) k hk,by have:=Tr.mem_le hk;have:=t.parts;omega⟩
theorem vD {t:Tr} (h:t.ok) (hl:t.enc.length≤10000):insOk t:=
 ⟨by have:=Tr.encs_two t.ks;have:=t.parts;omega,fun k hk=>(Nc h k hk).1,by have:=t.parts;omega⟩
theorem FR {t:Tr} (h:t.ok) (hl:t.enc.length≤10000):t.at:=
 ⟨by have:=J2 h 0;omega,fun k hk=>by obtain⟨a,b⟩:=Nc h k (List.mem_of_getElem? hk);exact⟨a,by omega⟩⟩
theorem FS {t:Tr} (h:t.ok) (hl:t.enc.length≤10000):t.nm:=
 ⟨by have:=Tr.encs_two t.ks;have:=t.parts;omega,fun k hk=>by
   obtain⟨a,b⟩:=Nc h k hk
   refine⟨by have:=Tr.encs_two k.ks;have:=k.parts;omega,fun j hj=> ?_⟩
   obtain⟨c,d⟩:=Nc a j hj
   exact FR c (by omega)⟩
theorem FT {t:Tr} (h:t.ok) (hl:t.enc.length≤9000):t.gn:=by
 obtain⟨a1,a2⟩:=H6 h 0
 obtain⟨b1,b2⟩:=H6 h 1
 exact⟨by have:=t.parts;omega,by have:=J2 h 0;omega,vD h (by omega),vD b1 (by omega),FS a1 (by omega),by have:=J2 a1 0;omega,by have:=J2 b1 0;omega⟩
theorem vE {t:Tr} (h:t.ok) (hl:t.enc.length≤3010):(Pk t).sm∧(atE (Pk t)).length≤60*t.enc.length:=by
 have h1:=Mr (t.kid 0).v
 have h2:=J2 h 0
 have h3:=zW t 1
 have h4:=t.enc_two
 have h5:=F6 (odT (t.kid 0).v)
 have h6:=Aj 0 6 false (Am (odT (t.kid 0).v)) (by omega)
 have h7:=Aj 0 16 true (Ae 0 6 false (Am (odT (t.kid 0).v))++Yx t 1) (by rw[List.length_append];omega)
 rw[List.length_append] at h7
 refine⟨⟨by show(odT _).length≤_;omega,by show(Yx t 1).length≤_;omega⟩,?_⟩
 show(Ae 0 16 true (Ae 0 6 false (Am (odT (t.kid 0).v))++Yx t 1)).length≤_
 omega
theorem Yy {t:Tr} (h:t.ok) (hl:t.enc.length≤3010):rdnZ (Ga t)∧(Bu (Ga t)).length≤63*t.enc.length:=by
 have hp:=t.parts
 have hc:=Tr.encs_two t.ks
 have he:=t.enc_two
 have hk:∀k∈t.ks,(atE (Pk k)).length≤60*k.enc.length:=fun k hk=>by
  obtain⟨a,b⟩:=Nc h k hk
  exact(vE a (by omega)).2
 have hm:=Uo (f:=fun k=>atE (Pk k)) hk
 have hf:((Ga t).map atE).flatten.length≤60*(Tr.encs t.ks).length:=by
  unfold Ga;rw[List.map_map];exact hm
 have h7:=Aj 0 17 true ((Ga t).map atE).flatten (by omega)
 refine⟨⟨by unfold Ga;rw[List.length_map];omega,fun a ha=> ?_,by omega⟩,by unfold Bu;omega⟩
 obtain⟨k,hkm,rfl⟩:=List.mem_map.1 ha
 obtain⟨x,y⟩:=Nc h k hkm
 exact(vE x (by omega)).1
theorem vF {t:Tr} (h:t.ok) (hl:t.enc.length≤3010):nmZ (L5 t)∧(nmE (L5 t)).length≤200000:=by
 have hp:=t.parts
 have hc:=Tr.encs_two t.ks
 have hk:∀k∈t.ks,(Bu (Ga k)).length≤63*k.enc.length:=fun k hk=>by
  obtain⟨a,b⟩:=Nc h k hk
  exact(Yy a (by omega)).2
 have hm:=Uo (f:=fun k=>Bu (Ga k)) hk
 have hf:((L5 t).map Bu).flatten.length≤63*(Tr.encs t.ks).length:=by
  unfold L5;rw[List.map_map];exact hm
 have h7:=Aj 0 16 true ((L5 t).map Bu).flatten (by omega)
 refine⟨⟨by unfold L5;rw[List.length_map];omega,fun a ha=> ?_,by omega⟩,by unfold nmE;omega⟩
 obtain⟨k,hkm,rfl⟩:=List.mem_map.1 ha
 obtain⟨x,y⟩:=Nc h k hkm
 exact(Yy x (by omega)).1
theorem EM {t:Tr} (h:t.ok) (hl:t.enc.length≤3010):(nmE (L5 t)).length≤63*t.enc.length+6:=by
 have hp:=t.parts
 have hm:=Uo (f:=fun k=>Bu (Ga k)) (C:=63) (l:=t.ks) fun k hk=>by
  obtain⟨a,b⟩:=Nc h k hk
  exact(Yy a (by omega)).2
 have hf:((L5 t).map Bu).flatten.length≤63*(Tr.encs t.ks).length:=by
  unfold L5;rw[List.map_map];exact hm
 have h7:=Aj 0 16 true ((L5 t).map Bu).flatten (by omega)
 unfold nmE;omega
theorem Dt:nmZ []:=⟨by simp,by simp,by simp⟩
theorem jS {t:Tr} (h:t.ok) (hl:t.enc.length≤3006):(A1 t).zz:=by
 obtain⟨a1,a2⟩:=H6 h 0
 obtain⟨b1,b2⟩:=H6 h 1
 have p0:=t.parts
 have p1:=(t.kid 1).parts
 have v0:=J2 h 0
 have v1:=J2 a1 0
 have v2:=J2 b1 0
 have n0:=(vF a1 (by omega)).1
 have o0:=Mr (t.kid 0).v
 have o1:=Mr t.v
 have d0:=H8 22 t.v
 have d1:=H8 ((t.kid 0).kid 0).n ((t.kid 0).kid 0).v
 have d2:=H8 ((t.kid 1).kid 0).n ((t.kid 1).kid 0).v
 obtain⟨c,n,k,b,ks⟩:=t
 simp only[Tr.v] at p0 o1 d0
 by_cases hn:n≤8
 ·rcases(by omega:n=0∨n=1∨n=2∨n=3∨n=4∨n=5∨n=6∨n=7∨n=8) with rfl|rfl|rfl|rfl|rfl|rfl|rfl|rfl|rfl
  ·exact⟨by show(odT _).length≤_;omega,by simp[A1,Tr.n],by show(Tr.encs _).length≤_;omega,Dt,by simp[A1,Tr.n],by simp[A1,Tr.n]⟩
  ·exact⟨by simp[A1,Tr.n],by show(Bq 22 b).length≤_;omega,by simp[A1,Tr.n],Dt,by simp[A1,Tr.n],by simp[A1,Tr.n]⟩
  ·exact⟨by simp[A1,Tr.n],by show(Bq 22 b).length≤_;omega,by simp[A1,Tr.n],Dt,by simp[A1,Tr.n],by simp[A1,Tr.n]⟩
  ·exact⟨by simp[A1,Tr.n],by simp[A1,Tr.n],by show(Tr.encs _).length≤_;omega,Dt,by simp[A1,Tr.n],by simp[A1,Tr.n]⟩
  ·exact⟨by simp[A1,Tr.n],by simp[A1,Tr.n],by simp[A1,Tr.n],n0,by simp[A1,Tr.n],by simp[A1,Tr.n]⟩
  ·show Gn.zz (if _ then _ else _)
   split
   ·exact⟨by simp,by simp,by simp,Dt,Nat.le_trans d1 (by omega),Nat.le_trans d2 (by omega)⟩
   ·exact⟨by simp,by simp,by simp,Dt,by simp,Nat.le_trans d1 (by omega)⟩
  ·exact⟨by simp[A1,Tr.n],by show(Bq 22 b).length≤_;omega,by simp[A1,Tr.n],Dt,by simp[A1,Tr.n],by simp[A1,Tr.n]⟩
  ·exact⟨by simp[A1,Tr.n],by simp[A1,Tr.n],by show b.length≤_;omega,Dt,by simp[A1,Tr.n],by simp[A1,Tr.n]⟩
  ·exact⟨Nat.le_trans o1 (by omega),by simp[A1,Tr.n],by simp[A1,Tr.n],Dt,by simp[A1,Tr.n],by simp[A1,Tr.n]⟩
 ·obtain⟨m,rfl⟩:∃m,n=m+9:=⟨n-9,by omega⟩
  exact⟨by simp[A1,Tr.n],by simp[A1,Tr.n],by simp[A1,Tr.n],Dt,by simp[A1,Tr.n],by simp[A1,Tr.n]⟩
theorem cB {g:Gn} (h:g.zz) (hn:(nmE g.nm).length≤200000):((Dp g).getD []).length≤g.oid.length+g.by'.length+4*g.tx.length+(nmE g.nm).length+4*g.av.length+4*g.pv.length+60:=by
 have h1:=F6 g.oid
 have:=h.o;have:=h.t;have:=h.b;have:=h.a;have:=h.p
 unfold Dp
 split
 ·split
  ·have h6:=Aj 0 6 false (Am g.oid) (by omega)
   have h7:=Aj 2 0 true g.by' (by omega)
   show(_++_:List UInt8).length≤_
   rw[List.length_append];omega
  ·simp
 split
 ·split
  ·rename_i hv
   have:=Fs hv
   show(chS 22 g.tx).length≤_
   omega
  ·simp
 split
 ·show g.by'.length≤_;omega
 split
 ·split
  ·show(nmE g.nm).length≤_;omega
  ·simp
 split
 ·unfold L3
  split
  ·rename_i hv
   rw[Bool.and_eq_true] at hv
   have l2:=Fg hv.2 h.p
   have x2:=Aj 2 1 true (txE g.pk g.pv) (by omega)
   show((if _ then _ else _)++_:List UInt8).length≤_
   rw[List.length_append]
   split
   ·simp;omega
   ·rename_i hz
    have hz:zT g.ak g.av=false:=by simpa using hz
    rw[hz,Bool.false_or] at hv
    have l1:=Fg hv.1 h.a
    have x1:=Aj 2 0 true (txE g.ak g.av) (by omega)
    omega
  ·simp
 split
 ·split
  ·show(Am g.oid).length≤_;omega
  ·simp
 ·simp
theorem zX {t:Tr} (h:t.ok) (hl:t.enc.length≤3006):(nmE (A1 t).nm).length≤200000:=by
 obtain⟨a1,a2⟩:=H6 h 0
 have h0:=(vF a1 (by omega)).2
 have hz:(nmE []).length≤200000:=by decide+kernel
 obtain⟨c,n,k,b,ks⟩:=t
 by_cases hn:n≤8
 ·rcases(by omega:n=0∨n=1∨n=2∨n=3∨n=4∨n=5∨n=6∨n=7∨n=8) with rfl|rfl|rfl|rfl|rfl|rfl|rfl|rfl|rfl
  ·exact hz
  ·exact hz
  ·exact hz
  ·exact hz
  ·exact h0
  ·show(nmE (Gn.nm (if _ then _ else _))).length≤_
   split
   ·exact hz
   ·exact hz
  ·exact hz
  ·exact hz
  ·exact hz
 ·obtain⟨m,rfl⟩:∃m,n=m+9:=⟨n-9,by omega⟩
  exact hz
def zY (g:Gn):List D:=[iD g.k,sD g.oid,sD g.tx,Ac false g.by',L2 g.nm,iD g.ak,sD g.av,iD g.pk,sD g.pv]
theorem jT (g:Gn):D.uns (zY g)=gnC g:=by simp only[zY,gnC,D.uns,Ag,Cc,D.un]
theorem D.uns_app (a b:List D):D.uns (a++b)=D.uns a++D.uns b:=by
 induction a with
 |nil=>rfl
 |cons x r ih=>show D.un x::D.uns (r++b)=D.un x::(D.uns r++D.uns b);rw[ih]
theorem EN {α:Type} (f:α→Bool) {l:List α} {i:Nat} {x:α} (hg:l[i]?=some x) (hx:f x=false):l.all f=false:=by
 cases hh:l.all f with
 |false=>rfl
 |true=>rw[List.all_eq_true.1 hh x (List.mem_of_getElem? hg)] at hx;cases hx
theorem zZ {b:List UInt8} (hb:b.length≤3000):(Ci b).ok∧(Ci b).enc.length≤3002:=by
 have:=yW b;exact⟨this.1,by omega⟩
structure gnsZ (l:List Gn):Prop where
 n:l.length≤100000
 z:∀g∈l,Gn.zz g
 e:(l.map gnE).flatten.length≤90000000
theorem vG {t:Tr} (h:t.ok) (hl:t.enc.length≤3006):(A1 t).oid.length≤21*t.enc.length+63∧(A1 t).by'.length≤t.enc.length+2∧(A1 t).tx.length≤4*t.enc.length∧(nmE (A1 t).nm).length≤63*t.enc.length+140∧(A1 t).av.length≤4*t.enc.length+16∧(A1 t).pv.length≤4*t.enc.length+16:=by
 obtain⟨a1,a2⟩:=H6 h 0
 obtain⟨b1,b2⟩:=H6 h 1
 have p0:=t.parts
 have p1:=(t.kid 1).parts
 have v0:=J2 h 0
 have v1:=J2 a1 0
 have v2:=J2 b1 0
 have n0:=EM a1 (by omega)
 have o0:=Mr (t.kid 0).v
 have o1:=Mr t.v
 have d0:=H8 22 t.v
 have d1:=H8 ((t.kid 0).kid 0).n ((t.kid 0).kid 0).v
 have d2:=H8 ((t.kid 1).kid 0).n ((t.kid 1).kid 0).v
 have hz:(nmE []).length=2:=by decide+kernel
 have z0:([]:List UInt8).length=0:=rfl
 obtain⟨c,n,k,b,ks⟩:=t
 generalize he:(Tr.mk c n k b ks).enc.length=e at*
 by_cases hn:n≤8
 ·rcases(by omega:n=0∨n=1∨n=2∨n=3∨n=4∨n=5∨n=6∨n=7∨n=8) with rfl|rfl|rfl|rfl|rfl|rfl|rfl|rfl|rfl
  case inr.inr.inr.inr.inr.inl=>
   rw[show A1 (.mk c 5 k b ks)=if isT ((Tr.mk c 5 k b ks).kid 0) 2 0 true then⟨5,[],[],[],[],M1 (((Tr.mk c 5 k b ks).kid 0).kid 0),M2 (((Tr.mk c 5 k b ks).kid 0).kid 0),M1 (((Tr.mk c 5 k b ks).kid 1).kid 0),M2 (((Tr.mk c 5 k b ks).kid 1).kid 0)⟩ else⟨5,[],[],[],[],0,[],M1 (((Tr.mk c 5 k b ks).kid 0).kid 0),M2 (((Tr.mk c 5 k b ks).kid 0).kid 0)⟩ from rfl]
   split
   ·exact⟨Nat.le_trans (Nat.le_of_eq z0) (by omega),Nat.le_trans (Nat.le_of_eq z0) (by omega),Nat.le_trans (Nat.le_of_eq z0) (by omega),Nat.le_trans (Nat.le_of_eq hz) (by omega),Nat.le_trans d1 (by omega),Nat.le_trans d2 (by omega)⟩
   ·exact⟨Nat.le_trans (Nat.le_of_eq z0) (by omega),Nat.le_trans (Nat.le_of_eq z0) (by omega),Nat.le_trans (Nat.le_of_eq z0) (by omega),Nat.le_trans (Nat.le_of_eq hz) (by omega),Nat.le_trans (Nat.le_of_eq z0) (by omega),Nat.le_trans d1 (by omega)⟩
  all_goals(refine⟨?_,?_,?_,?_,?_,?_⟩<;>first|exact Nat.le_trans o0 (by omega)|exact Nat.le_trans o1 (by omega)|exact Nat.le_trans d0 (by omega)|exact Nat.le_trans n0 (by omega)|exact Nat.le_trans (Nat.le_of_eq hz) (by omega)|exact Nat.le_trans (Nat.le_of_eq z0) (by omega)|(show(Tr.encs _).length≤_;omega)|(show b.length≤_;simp only[Tr.v] at p0;omega))
 ·obtain⟨m,rfl⟩:∃m,n=m+9:=⟨n-9,by omega⟩
  refine⟨?_,?_,?_,?_,?_,?_⟩<;>first|exact Nat.le_trans (Nat.le_of_eq hz) (by omega)|exact Nat.le_trans (Nat.le_of_eq z0) (by omega)
theorem vH {t:Tr} (h:t.ok) (hl:t.enc.length≤3006):(gnE (A1 t)).length≤400*t.enc.length:=by
 obtain⟨q1,q2,q3,q4,q5,q6⟩:=vG h hl
 have hc:=cB (jS h hl) (zX h hl)
 have he:=t.enc_two
 have:=Aj 2 (A1 t).k.toNat (C5 (A1 t).k) ((Dp (A1 t)).getD []) (by omega)
 unfold gnE;omega
theorem Df (c n:Nat) (k:Bool) (l:List UInt8):l.length+2≤(Ae c n k l).length:=by
 have:=Wo l.length
 unfold Ae;rw[C4];omega
theorem Pl {α:Type} (f:α→List UInt8) (k:Nat):∀{l:List α},(∀x∈l,k≤(f x).length)→k*l.length≤(l.map f).flatten.length
 |[],_=>by simp
 |x::r,h=>by
  have h1:=h x (by simp)
  have h2:=Pl f k (l:=r) fun y hy=>h y (by simp[hy])
  rw[List.map_cons,List.flatten_cons,List.length_append,List.length_cons,Nat.mul_add];omega
theorem Wp {a:Att} (h:Il a=true):a.sm∧(atE a).length≤212+a.val.length:=by
 unfold Il at h
 simp only[Bool.and_eq_true,decide_eq_true_eq] at h
 obtain⟨h1,h2⟩:=h
 have k1:=F6 a.oid
 have k2:=Aj 0 6 false (Am a.oid) (by omega)
 have k3:=Aj 0 16 true (Ae 0 6 false (Am a.oid)++a.val) (by rw[List.length_append];omega)
 rw[List.length_append] at k3
 exact⟨⟨by omega,by omega⟩,by unfold atE;omega⟩
theorem Up:∀{r:List Att},r.all Il=true→(r.map atE).flatten.length≤212*r.length+Kx r
 |[],_=>by simp[Kx]
 |a::r,h=>by
  rw[List.all_cons,Bool.and_eq_true] at h
  have h1:=(Wp h.1).2
  have h2:=Up h.2
  unfold Kx at h2⊢
  rw[List.map_cons,List.flatten_cons,List.length_append,List.map_cons,List.sum_cons,List.length_cons];omega
theorem Uq {r:List Att} (h:E5 r=true):rdnZ r∧(Bu r).length≤1702+Kx r:=by
 obtain⟨h1,h2,h3⟩:=Ki h
 have h4:=Up h2
 have h5:=Aj 0 17 true (r.map atE).flatten (by omega)
 exact⟨⟨by omega,fun a ha=>(Wp (List.all_eq_true.1 h2 a ha)).1,by omega⟩,by unfold Bu;omega⟩
theorem Q9:∀{n:List (List Att)},n.all E5=true→(n.map Bu).flatten.length≤1702*n.length+Jk n
 |[],_=>by simp[Jk]
 |a::r,h=>by
  rw[List.all_cons,Bool.and_eq_true] at h
  have h1:=(Uq h.1).2
  have h2:=Q9 h.2
  unfold Jk at h2⊢
  rw[List.map_cons,List.flatten_cons,List.length_append,List.map_cons,List.sum_cons,List.length_cons];omega
theorem cC {n:List (List Att)} (h:F2 n=true):nmZ n∧(nmE n).length≤19026:=by
 obtain⟨h1,h2,h3⟩:=U3 h
 have h4:=Q9 h2
 have h5:=Aj 0 16 true (n.map Bu).flatten (by omega)
 exact⟨⟨by omega,fun r hr=>(Uq (List.all_eq_true.1 h2 r hr)).1,by omega⟩,by unfold nmE;omega⟩
theorem AA {g:Gn} (h:Qy g=true):g.mid∧(gnE g).length≤23392:=by
 obtain⟨h1,h2,h3,h4,h5,h6⟩:=aF h
 obtain⟨n1,n2⟩:=cC h4
 have hz:g.zz:=⟨by omega,by omega,by omega,n1,by omega,by omega⟩
 have hc:=cB hz (by omega)
 have:=Aj 2 g.k.toNat (C5 g.k) ((Dp g).getD []) (by omega)
 exact⟨⟨hz.s,by omega⟩,by unfold gnE;omega⟩
theorem FU {a:Att} (h:atV a=true) (hl:(atE a).length≤400000):a.sm∧4≤(atE a).length:=by
 obtain⟨h1,-⟩:=Rz h
 have h3:=O4 h1
 have h4:=Df 0 6 false (Am a.oid)
 have h5:=Df 0 16 true (Ae 0 6 false (Am a.oid)++a.val)
 rw[List.length_append] at h5
 have e:(atE a).length=(Ae 0 16 true (Ae 0 6 false (Am a.oid)++a.val)).length:=rfl
 exact⟨⟨by omega,by omega⟩,by omega⟩
theorem EO {r:List Att} (h:E6 r=true) (hl:(Bu r).length≤400000):rdnZ r∧4≤(Bu r).length:=by
 obtain⟨h0,h1,-⟩:=R0 h
 have h2:=Df 0 17 true (r.map atE).flatten
 have e:(Bu r).length=(Ae 0 17 true (r.map atE).flatten).length:=rfl
 have h3:∀a∈r,a.sm∧4≤(atE a).length:=fun a ha=>by
  have:=F7 (List.mem_map_of_mem (f:=atE) ha)
  exact FU (List.all_eq_true.1 h1 a ha) (by omega)
 have h4:=Pl atE 4 fun a ha=>(h3 a ha).2
 have h5:1≤r.length:=by cases r with|nil=>exact absurd rfl h0|cons _ _=>simp
 exact⟨⟨by omega,fun a ha=>(h3 a ha).1,by omega⟩,by omega⟩
theorem FV {n:List (List Att)} (h:nmV n=true) (hl:(nmE n).length≤400000):nmZ n:=by
 have h2:=Df 0 16 true (n.map Bu).flatten
 have e:(nmE n).length=(Ae 0 16 true (n.map Bu).flatten).length:=rfl
 have h3:∀r∈n,rdnZ r∧4≤(Bu r).length:=fun r hr=>by
  have:=F7 (List.mem_map_of_mem (f:=Bu) hr)
  exact EO (List.all_eq_true.1 h r hr) (by omega)
 have h4:=Pl Bu 4 fun r hr=>(h3 r hr).2
 exact⟨by omega,fun r hr=>(h3 r hr).1,by omega⟩
theorem vI {k:Int} {l:List UInt8} (h:Af k l=true):l.length≤4*(chS k l).length:=by
 have:=H8 k (chS k l)
 rwa[(Qg h).2.1] at this
theorem vJ {k:Int} {l:List UInt8} (h:Af k l=true):l.length≤4*(txE k l).length:=by
 have h1:=vI h
 have h2:=Df 0 k.toNat false (chS k l)
 unfold txE;omega
theorem AB {g:Gn} (h:gnW g=true) (hl:(gnE g).length≤400000):g.mid:=by
 obtain⟨h1,-,⟨c,h3⟩,h4⟩:=(Mt g).1 h
 have hc:c.length≤400000:=by
  have:=Df 2 g.k.toNat (C5 g.k) ((Dp g).getD [])
  have e:(gnE g).length=(Ae 2 g.k.toNat (C5 g.k) ((Dp g).getD [])).length:=rfl
  rw[h3] at this e
  have e2:((some c).getD [])=c:=rfl
  rw[e2] at this e;omega
 refine⟨?_,by rw[h3];show c.length≤_;omega⟩
 obtain⟨m,hm,hk⟩:=N2 h3
 obtain⟨k,oid,tx,by',nm,ak,av,pk,pv⟩:=g
 rw[C1] at h1
 obtain⟨a1,a2,a3,a4,a5⟩:=h1
 simp only at hk a1 a2 a3 a4 a5
 subst hk
 unfold Dp at h3
 simp only at h3
 have l0:([]:List UInt8).length=0:=rfl
 rcases(by omega:m=0∨m=1∨m=2∨m=3∨m=4∨m=5∨m=6∨m=7∨m=8) with rfl|rfl|rfl|rfl|rfl|rfl|rfl|rfl|rfl
 ·obtain rfl:tx=[]:=by simpa using a2
  obtain rfl:nm=[]:=by simpa using a4
  obtain⟨⟨rfl,rfl⟩,rfl,rfl⟩:(ak=0∧av=[])∧pk=0∧pv=[]:=by simpa using a5
  rw[if_pos (by rfl)] at h3
  by_cases ho:C9 oid=true
  ·rw[if_pos ho] at h3
   obtain rfl:=Option.some.inj h3
   have:=O4 ho
   have:=Df 0 6 false (Am oid)
   have:=Df 2 0 true by'
   rw[List.length_append] at hc
   exact⟨by show oid.length≤_;omega,by simp,by show by'.length≤_;omega,Dt,by simp,by simp⟩
  ·rw[if_neg ho] at h3;cases h3
 case inr.inr.inr.inl=>
  obtain rfl:oid=[]:=by simpa using a1
  obtain rfl:tx=[]:=by simpa using a2
  obtain rfl:nm=[]:=by simpa using a4
  obtain⟨⟨rfl,rfl⟩,rfl,rfl⟩:(ak=0∧av=[])∧pk=0∧pv=[]:=by simpa using a5
  rw[if_neg (by decide),if_neg (by decide),if_pos (by decide)] at h3
  obtain rfl:=Option.some.inj h3
  exact⟨by simp,by simp,by show by'.length≤_;omega,Dt,by simp,by simp⟩
 case inr.inr.inr.inr.inl=>
  obtain rfl:oid=[]:=by simpa using a1
  obtain rfl:tx=[]:=by simpa using a2
  obtain rfl:by'=[]:=by simpa using a3
  obtain⟨⟨rfl,rfl⟩,rfl,rfl⟩:(ak=0∧av=[])∧pk=0∧pv=[]:=by simpa using a5
  rw[if_neg (by decide),if_neg (by decide),if_neg (by decide),if_pos (by rfl)] at h3
  by_cases ho:nmV nm=true
  ·rw[if_pos ho] at h3
   obtain rfl:=Option.some.inj h3
   exact⟨by simp,by simp,by simp,FV ho hc,by simp,by simp⟩
  ·rw[if_neg ho] at h3;cases h3
 case inr.inr.inr.inr.inr.inl=>
  obtain rfl:oid=[]:=by simpa using a1
  obtain rfl:tx=[]:=by simpa using a2
  obtain rfl:by'=[]:=by simpa using a3
  obtain rfl:nm=[]:=by simpa using a4
  rw[if_neg (by decide),if_neg (by decide),if_neg (by decide),if_neg (by decide),if_pos (by rfl)] at h3
  unfold L3 at h3
  simp only at h3
  by_cases hh:((zT ak av||Af ak av)&&Af pk pv)=true
  ·rw[if_pos hh] at h3
   obtain rfl:=Option.some.inj h3
   rw[Bool.and_eq_true,Bool.or_eq_true] at hh
   have k1:=vJ hh.2
   have k2:=Df 2 1 true (txE pk pv)
   rw[List.length_append] at hc
   refine⟨by simp,by simp,by simp,Dt,?_,by show pv.length≤_;omega⟩
   show av.length≤_
   by_cases hz:zT ak av=true
   ·rw[(Qh.1 hz).2];simp
   ·rw[if_neg hz] at hc
    have k3:=vJ (hh.1.resolve_left hz)
    have k4:=Df 2 0 true (txE ak av)
    omega
  ·rw[if_neg hh] at h3;cases h3
 case inr.inr.inr.inr.inr.inr.inr.inl=>
  obtain rfl:oid=[]:=by simpa using a1
  obtain rfl:tx=[]:=by simpa using a2
  obtain rfl:nm=[]:=by simpa using a4
  obtain⟨⟨rfl,rfl⟩,rfl,rfl⟩:(ak=0∧av=[])∧pk=0∧pv=[]:=by simpa using a5
  rw[if_neg (by decide),if_neg (by decide),if_pos (by decide)] at h3
  obtain rfl:=Option.some.inj h3
  exact⟨by simp,by simp,by show by'.length≤_;omega,Dt,by simp,by simp⟩
 case inr.inr.inr.inr.inr.inr.inr.inr=>
  obtain rfl:tx=[]:=by simpa using a2
  obtain rfl:by'=[]:=by simpa using a3
  obtain rfl:nm=[]:=by simpa using a4
  obtain⟨⟨rfl,rfl⟩,rfl,rfl⟩:(ak=0∧av=[])∧pk=0∧pv=[]:=by simpa using a5
  rw[if_neg (by decide),if_neg (by decide),if_neg (by decide),if_neg (by decide),if_neg (by decide),if_pos (by rfl)] at h3
  by_cases ho:C9 oid=true
  ·rw[if_pos ho] at h3
   obtain rfl:=Option.some.inj h3
   have:=O4 ho
   exact⟨by show oid.length≤_;omega,by simp,by simp,Dt,by simp,by simp⟩
  ·rw[if_neg ho] at h3;cases h3
 all_goals
  obtain rfl:oid=[]:=by simpa using a1
  obtain rfl:by'=[]:=by simpa using a3
  obtain rfl:nm=[]:=by simpa using a4
  obtain⟨⟨rfl,rfl⟩,rfl,rfl⟩:(ak=0∧av=[])∧pk=0∧pv=[]:=by simpa using a5
  rw[if_neg (by decide),if_pos (by decide)] at h3
  by_cases ho:Af 22 tx=true
  ·rw[if_pos ho] at h3
   obtain rfl:=Option.some.inj h3
   have:=vI ho
   exact⟨by simp,by show tx.length≤_;omega,by simp,Dt,by simp,by simp⟩
  ·rw[if_neg ho] at h3;cases h3
def oE (g:Gn):List D:=[iD g.k,sD g.oid,sD g.tx,Ac true g.by',L2 g.nm,iD g.ak,sD g.av,iD g.pk,sD g.pv]
theorem jU (g:Gn):D.uns (oE g)=gnC g:=by simp only[oE,gnC,D.uns,Ag,Cc,D.un]
theorem Wq (g:Gn) (h:g.mid):Aa Tryz.prog 38 [gnA g] (fun r=>r=fZ (gnW g) (gnE g)):=by
 have hM:=gA g h.s h.c
 rwa[DG h] at hM
theorem EP {g:Gn} (h:gnW g=true) (hs:g.mid):∃t:Tv,t.ok∧gnE g=t.enc:=by
 obtain⟨-,-,⟨c,h3⟩,-⟩:=(Mt g).1 h
 obtain⟨n,hn,hk⟩:=N2 h3
 exact⟨⟨2,g.k.toNat,C5 g.k,(Dp g).getD []⟩,⟨by show(2:Nat)≤3;omega,by show g.k.toNat≤30;omega,by have:=hs.c;show((Dp g).getD []).length≤_;omega⟩,rfl⟩
theorem L6 {b:Bool} {A B:Prop} (h:b=true) (ha:A):(bif b then A else B):=by subst h;exact ha
theorem oF (n:List (List Att)):(L2 n).fresh=true:=
 P2 1 fun r _=>by
  show((fW r).fresh&&true)=true
  rw[Bool.and_true]
  exact P2 2 fun a _=>by
   show(true&&((Ac true a.val).fresh&&true))=true
   rw[Qx];rfl
theorem gD (g:Gn):D.freshs (oE g)=true:=by
 show(true&&(true&&(true&&((Ac true g.by').fresh&&((L2 g.nm).fresh&&(true&&(true&&(true&&(true&&true)))))))))=true
 rw[Qx,oF];rfl
def Qj (i:Nat) (b:List UInt8):List UInt8:=(b.take i).map (fun x=>UInt8.ofNat (x.toNat+1))++b.drop i
theorem Yz (i:Nat) (b:List UInt8):(Qj i b).length=b.length:=by
 unfold Qj
 rw[List.length_append,List.length_map,List.length_take,List.length_drop];omega
theorem gE {i:Nat} {b:List UInt8} {x:UInt8} (h:b[i]?=some x):(Qj i b)[i]?=some x:=by
 have hi:=(List.getElem?_eq_some_iff.1 h).1
 unfold Qj
 rw[List.getElem?_append_right (by rw[List.length_map,List.length_take];omega),List.length_map,List.length_take,List.getElem?_drop,←h]
 congr 1;omega
theorem Y0 {i:Nat} {b:List UInt8} {x:UInt8} (h:b[i]?=some x):(Qj i b).set i (UInt8.ofNat (x.toNat+1))=Qj (i+1) b:=by
 obtain⟨hi,he⟩:=List.getElem?_eq_some_iff.1 h
 unfold Qj
 have hl:((b.take i).map fun x=>UInt8.ofNat (x.toNat+1)).length=i:=by rw[List.length_map,List.length_take];omega
 rw[List.set_append_right _ _ (by omega),hl,Nat.sub_self,List.take_succ_eq_append_getElem hi,List.map_append,he,List.append_assoc,List.drop_eq_getElem_cons hi]
 rfl
end Go.Proofs.YtcojanjphgmcmaaGreatDoor
