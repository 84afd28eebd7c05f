/- MT: the texts Rz R13P GenS GenW Frz2, one behind the other. No condition but what each lemma says. -/
import Derived.Test.YtgmbmfoabndmoaaGreatDoorMS
import Derived.Test.YtgmbmfoabndmoaaGreatDoorMM
import Derived.Test.YtgmbmfoabndmoaaGreatDoorMI
import Derived.Test.YtgmbmfoabndmoaaGreatDoorMH
import Derived.Test.YtgmbmfoabndmoaaGreatDoorMC
set_option maxRecDepth 100000
set_option maxHeartbeats 16000000
namespace Go.Proofs.YtgmbmfoabndmoaaGreatDoor
open Go.RowKit
theorem H2 (k:Int) (c:List UInt8):(Bs k c).length≤4*c.length:=by
 unfold Bs
 split
 ·simp
 split
 ·unfold Ef
  split
  ·omega
  ·have:=H8 (Ag k).toNat c (c.length/(Ag k).toNat)
   have:=Nat.div_le_self c.length (Ag k).toNat
   omega
 ·simp
theorem Ql {f:Tr→List UInt8} {C:Nat}:∀{l:List Tr},(∀k∈l,(f k).length≤C*k.enc.length)→(l.map f).flatten.length≤C*(Tr.encs l).length
 |[],_=>by simp
 |x::r,h=>by
  have h1:=h x (by simp)
  have h2:=Ql (f:=f) (C:=C) (l:=r) fun k hk=>h k (by simp[hk])
  rw[List.map_cons,List.flatten_cons,List.length_append,Tr.encs,List.length_append,Nat.mul_add];omega
theorem BD (t:Tr) (i:Nat):(Zh t i).length≤t.enc.length:=by
 unfold Zh
 split
 ·rename_i k hk
  have:=Tr.mem_le (List.mem_of_getElem? hk)
  have:=t.parts;omega
 ·simp
theorem Ly {t:Tr} (h:t.ok) (i:Nat):(t.kid i).v.length≤t.enc.length+2:=by
 have:=(Kb h i).2;have:=(t.kid i).parts;omega
theorem Lz {t:Tr} (h:t.ok):∀k∈t.ks,k.ok∧k.enc.length≤t.enc.length:=fun k hk=>
 ⟨Tr.oks_mem (Tr.ok_ks h) k hk,by have:=Tr.mem_le hk;have:=t.parts;omega⟩
theorem wN {t:Tr} (h:t.ok) (hl:t.enc.length≤10000):insOk t:=
 ⟨by have:=Tr.encs_two t.ks;have:=t.parts;omega,fun k hk=>(Lz h k hk).1,by have:=t.parts;omega⟩
theorem GX {t:Tr} (h:t.ok) (hl:t.enc.length≤10000):t.at:=
 ⟨by have:=Ly h 0;omega,fun k hk=>by obtain⟨a,b⟩:=Lz h k (List.mem_of_getElem? hk);exact⟨a,by omega⟩⟩
theorem GY {t:Tr} (h:t.ok) (hl:t.enc.length≤10000):t.nm:=
 ⟨by have:=Tr.encs_two t.ks;have:=t.parts;omega,fun k hk=>by
   obtain⟨a,b⟩:=Lz h k hk
   refine⟨by have:=Tr.encs_two k.ks;have:=k.parts;omega,fun j hj=> ?_⟩
   obtain⟨c,d⟩:=Lz a j hj
   exact GX c (by omega)⟩
theorem GZ {t:Tr} (h:t.ok) (hl:t.enc.length≤9000):t.gn:=by
 obtain⟨a1,a2⟩:=Kb h 0
 obtain⟨b1,b2⟩:=Kb h 1
 exact⟨by have:=t.parts;omega,by have:=Ly h 0;omega,wN h (by omega),wN b1 (by omega),GY a1 (by omega),by have:=Ly a1 0;omega,by have:=Ly b1 0;omega⟩
theorem wO {t:Tr} (h:t.ok) (hl:t.enc.length≤3010):(Pk t).sm∧(atE (Pk t)).length≤60*t.enc.length:=by
 have h1:=Pe (t.kid 0).v
 have h2:=Ly h 0
 have h3:=BD t 1
 have h4:=t.enc_two
 have h5:=Yq (odT (t.kid 0).v)
 have h6:=Al 0 6 false (Au (odT (t.kid 0).v)) (by omega)
 have h7:=Al 0 16 true (Ae 0 6 false (Au (odT (t.kid 0).v))++Zh t 1) (by rw[List.length_append];omega)
 rw[List.length_append] at h7
 refine⟨⟨by show(odT _).length≤_;omega,by show(Zh t 1).length≤_;omega⟩,?_⟩
 show(Ae 0 16 true (Ae 0 6 false (Au (odT (t.kid 0).v))++Zh t 1)).length≤_
 omega
theorem Zi {t:Tr} (h:t.ok) (hl:t.enc.length≤3010):rdnZ (F2 t)∧(Bw (F2 t)).length≤63*t.enc.length:=by
 have hp:=t.parts
 have hc:=Tr.encs_two t.ks
 have he:=t.enc_two
 have hk:∀k∈t.ks,(atE (Pk k)).length≤60*k.enc.length:=fun k hk=>by
  obtain⟨a,b⟩:=Lz h k hk
  exact(wO a (by omega)).2
 have hm:=Ql (f:=fun k=>atE (Pk k)) hk
 have hf:((F2 t).map atE).flatten.length≤60*(Tr.encs t.ks).length:=by
  unfold F2;rw[List.map_map];exact hm
 have h7:=Al 0 17 true ((F2 t).map atE).flatten (by omega)
 refine⟨⟨by unfold F2;rw[List.length_map];omega,fun a ha=> ?_,by omega⟩,by unfold Bw;omega⟩
 obtain⟨k,hkm,rfl⟩:=List.mem_map.1 ha
 obtain⟨x,y⟩:=Lz h k hkm
 exact(wO x (by omega)).1
theorem wQ {t:Tr} (h:t.ok) (hl:t.enc.length≤3010):nmZ (Lx t)∧(nmE (Lx t)).length≤200000:=by
 have hp:=t.parts
 have hc:=Tr.encs_two t.ks
 have hk:∀k∈t.ks,(Bw (F2 k)).length≤63*k.enc.length:=fun k hk=>by
  obtain⟨a,b⟩:=Lz h k hk
  exact(Zi a (by omega)).2
 have hm:=Ql (f:=fun k=>Bw (F2 k)) hk
 have hf:((Lx t).map Bw).flatten.length≤63*(Tr.encs t.ks).length:=by
  unfold Lx;rw[List.map_map];exact hm
 have h7:=Al 0 16 true ((Lx t).map Bw).flatten (by omega)
 refine⟨⟨by unfold Lx;rw[List.length_map];omega,fun a ha=> ?_,by omega⟩,by unfold nmE;omega⟩
 obtain⟨k,hkm,rfl⟩:=List.mem_map.1 ha
 obtain⟨x,y⟩:=Lz h k hkm
 exact(Zi x (by omega)).1
theorem FQ {t:Tr} (h:t.ok) (hl:t.enc.length≤3010):(nmE (Lx t)).length≤63*t.enc.length+6:=by
 have hp:=t.parts
 have hm:=Ql (f:=fun k=>Bw (F2 k)) (C:=63) (l:=t.ks) fun k hk=>by
  obtain⟨a,b⟩:=Lz h k hk
  exact(Zi a (by omega)).2
 have hf:((Lx t).map Bw).flatten.length≤63*(Tr.encs t.ks).length:=by
  unfold Lx;rw[List.map_map];exact hm
 have h7:=Al 0 16 true ((Lx t).map Bw).flatten (by omega)
 unfold nmE;omega
theorem Dp:nmZ []:=⟨by simp,by simp,by simp⟩
theorem lJ {t:Tr} (h:t.ok) (hl:t.enc.length≤3006):(Ax t).zz:=by
 obtain⟨a1,a2⟩:=Kb h 0
 obtain⟨b1,b2⟩:=Kb h 1
 have p0:=t.parts
 have p1:=(t.kid 1).parts
 have v0:=Ly h 0
 have v1:=Ly a1 0
 have v2:=Ly b1 0
 have n0:=(wQ a1 (by omega)).1
 have o0:=Pe (t.kid 0).v
 have o1:=Pe t.v
 have d0:=H2 22 t.v
 have d1:=H2 ((t.kid 0).kid 0).n ((t.kid 0).kid 0).v
 have d2:=H2 ((t.kid 1).kid 0).n ((t.kid 1).kid 0).v
 obtain⟨c,n,k,b,ks⟩:=t
 simp only[Tr.v] at p0 o1 d0
 by_cases hn:n≤8
 ·rcases(by omega:n=0∨n=1∨n=2∨n=3∨n=4∨n=5∨n=6∨n=7∨n=8) with rfl|rfl|rfl|rfl|rfl|rfl|rfl|rfl|rfl
  ·exact⟨by show(odT _).length≤_;omega,by simp[Ax,Tr.n],by show(Tr.encs _).length≤_;omega,Dp,by simp[Ax,Tr.n],by simp[Ax,Tr.n]⟩
  ·exact⟨by simp[Ax,Tr.n],by show(Bs 22 b).length≤_;omega,by simp[Ax,Tr.n],Dp,by simp[Ax,Tr.n],by simp[Ax,Tr.n]⟩
  ·exact⟨by simp[Ax,Tr.n],by show(Bs 22 b).length≤_;omega,by simp[Ax,Tr.n],Dp,by simp[Ax,Tr.n],by simp[Ax,Tr.n]⟩
  ·exact⟨by simp[Ax,Tr.n],by simp[Ax,Tr.n],by show(Tr.encs _).length≤_;omega,Dp,by simp[Ax,Tr.n],by simp[Ax,Tr.n]⟩
  ·exact⟨by simp[Ax,Tr.n],by simp[Ax,Tr.n],by simp[Ax,Tr.n],n0,by simp[Ax,Tr.n],by simp[Ax,Tr.n]⟩
  ·show Gn.zz (if _ then _ else _)
   split
   ·exact⟨by simp,by simp,by simp,Dp,Nat.le_trans d1 (by omega),Nat.le_trans d2 (by omega)⟩
   ·exact⟨by simp,by simp,by simp,Dp,by simp,Nat.le_trans d1 (by omega)⟩
  ·exact⟨by simp[Ax,Tr.n],by show(Bs 22 b).length≤_;omega,by simp[Ax,Tr.n],Dp,by simp[Ax,Tr.n],by simp[Ax,Tr.n]⟩
  ·exact⟨by simp[Ax,Tr.n],by simp[Ax,Tr.n],by show b.length≤_;omega,Dp,by simp[Ax,Tr.n],by simp[Ax,Tr.n]⟩
  ·exact⟨Nat.le_trans o1 (by omega),by simp[Ax,Tr.n],by simp[Ax,Tr.n],Dp,by simp[Ax,Tr.n],by simp[Ax,Tr.n]⟩
 ·obtain⟨m,rfl⟩:∃m,n=m+9:=⟨n-9,by omega⟩
  exact⟨by simp[Ax,Tr.n],by simp[Ax,Tr.n],by simp[Ax,Tr.n],Dp,by simp[Ax,Tr.n],by simp[Ax,Tr.n]⟩
theorem dF {g:Gn} (h:g.zz) (hn:(nmE g.nm).length≤200000):((Dm g).getD []).length≤g.oid.length+g.by'.length+4*g.tx.length+(nmE g.nm).length+4*g.av.length+4*g.pv.length+60:=by
 have h1:=Yq g.oid
 have:=h.o;have:=h.t;have:=h.b;have:=h.a;have:=h.p
 unfold Dm
 split
 ·split
  ·have h6:=Al 0 6 false (Au g.oid) (by omega)
   have h7:=Al 2 0 true g.by' (by omega)
   show(_++_:List UInt8).length≤_
   rw[List.length_append];omega
  ·simp
 split
 ·split
  ·rename_i hv
   have:=Fk hv
   show(chS 22 g.tx).length≤_
   omega
  ·simp
 split
 ·show g.by'.length≤_;omega
 split
 ·split
  ·show(nmE g.nm).length≤_;omega
  ·simp
 split
 ·unfold Lv
  split
  ·rename_i hv
   rw[Bool.and_eq_true] at hv
   have l2:=Fb hv.2 h.p
   have x2:=Al 2 1 true (txE g.pk g.pv) (by omega)
   show((if _ then _ else _)++_:List UInt8).length≤_
   rw[List.length_append]
   split
   ·simp;omega
   ·rename_i hz
    have hz:zT g.ak g.av=false:=by simpa using hz
    rw[hz,Bool.false_or] at hv
    have l1:=Fb hv.1 h.a
    have x1:=Al 2 0 true (txE g.ak g.av) (by omega)
    omega
  ·simp
 split
 ·split
  ·show(Au g.oid).length≤_;omega
  ·simp
 ·simp
theorem BE {t:Tr} (h:t.ok) (hl:t.enc.length≤3006):(nmE (Ax t).nm).length≤200000:=by
 obtain⟨a1,a2⟩:=Kb h 0
 have h0:=(wQ a1 (by omega)).2
 have hz:(nmE []).length≤200000:=by decide+kernel
 obtain⟨c,n,k,b,ks⟩:=t
 by_cases hn:n≤8
 ·rcases(by omega:n=0∨n=1∨n=2∨n=3∨n=4∨n=5∨n=6∨n=7∨n=8) with rfl|rfl|rfl|rfl|rfl|rfl|rfl|rfl|rfl
  ·exact hz
  ·exact hz
  ·exact hz
  ·exact hz
  ·exact h0
  ·show(nmE (Gn.nm (if _ then _ else _))).length≤_
   split
   ·exact hz
   ·exact hz
  ·exact hz
  ·exact hz
  ·exact hz
 ·obtain⟨m,rfl⟩:∃m,n=m+9:=⟨n-9,by omega⟩
  exact hz
def iP (g:Gn):List D:=[iD g.k,sD g.oid,sD g.tx,Ac false g.by',Ng g.nm,iD g.ak,sD g.av,iD g.pk,sD g.pv]
def U7 (l:List Gn):D:=F4 true 9 iP l
theorem BF (g:Gn):D.uns (iP g)=gnC g:=by simp only[iP,gnC,D.uns,Ah,By,D.un]
theorem D.uns_app (a b:List D):D.uns (a++b)=D.uns a++D.uns b:=by
 induction a with
 |nil=>rfl
 |cons x r ih=>show D.un x::D.uns (r++b)=D.un x::(D.uns r++D.uns b);rw[ih]
theorem Zj (l:List Gn):D.uns (l.flatMap iP)=l.flatMap gnC:=by
 induction l with
 |nil=>rfl
 |cons g r ih=>rw[List.flatMap_cons,D.uns_app,BF,ih,List.flatMap_cons]
theorem Mt (l:List Gn):(U7 l).un=Df l:=by
 show D.sl false l.length 9 (D.uns (l.flatMap iP))=_
 rw[Zj];rfl
theorem FR {α:Type} (f:α→Bool) {l:List α} {i:Nat} {x:α} (hg:l[i]?=some x) (hx:f x=false):l.all f=false:=by
 cases hh:l.all f with
 |false=>rfl
 |true=>rw[List.all_eq_true.1 hh x (List.mem_of_getElem? hg)] at hx;cases hx
theorem BG {b:List UInt8} (hb:b.length≤3000):(Cp b).ok∧(Cp b).enc.length≤3002:=by
 have:=AC b;exact⟨this.1,by omega⟩
theorem lL {p:Prop} (h:p:=by first|rfl|(simp only[AV.gives,AV.ren,AV.give,D.un,D.uns,Ah,Ai,List.nil_append,List.append_nil,List.cons_append,Am,Av,Bv,A1,As,Bp,Bx,Cz,By,Ce,Br,Tr.cellss_un,Mt,Zj];first|done|rfl)):p:=h
structure gnsZ (l:List Gn):Prop where
 n:l.length≤100000
 z:∀g∈l,Gn.zz g
 e:(l.map gnE).flatten.length≤90000000
def Zk (l:List Gn):Bool:= !l.isEmpty&&l.all gnW
theorem Xb (l:List Gn) (hz:gnsZ l):Aa Tryz.prog 28 [.d (Df l)] (fun r=>r=bv (Zk l)):=by
 obtain⟨hl,hs,-⟩:=hz
 unfold Zk
 refine acQ 19 Tryz.func28 rfl rfl fun _ _ _=> ?_
 (all_goals(conv=>whnf))
 refine NLoop.go (fun i:Nat=>i≤l.length∧(l.take i).all gnW=true) (fun i=>l.length-i) (fun i=>⟨[(0,.d (Df l)),(3,iv i)],[],[]⟩) 0 ⟨by omega,rfl⟩ leQ ?_
 rintro i ⟨hi,ha⟩
 by_cases hik:i<l.length
 ·have gi:decide ((i:Int)<l.length)=true:=decide_eq_true (by omega)
  obtain⟨x,hg⟩:∃p,l[i]?=some p:=⟨_,List.getElem?_eq_getElem hik⟩
  have hV:=Eo x (hs x (List.mem_of_getElem? hg))
  cases h1:gnW x
  ·rw[h1] at hV
   rw[FR gnW hg h1,Bool.and_false]
   (repeat'((conv=>whnf);first|refine NBr.pos asQ ?_|refine NBr.yes ?_|refine NIdx.tab (fun _=>rfl) hg ?_|refine NCall.eq hV lL ?_));(all_goals(conv=>whnf))
   all_goals exact NEnd.eq leQ
  ·rw[h1] at hV
   (repeat'((conv=>whnf);first|refine NBr.pos asQ ?_|refine NBr.no ?_|refine NIdx.tab (fun _=>rfl) hg ?_|refine NCall.eq hV lL ?_|(with_reducible refine NInt.i64 ?_)));(all_goals(conv=>whnf))
   refine⟨i+1,⟨by omega,Hb gnW hg h1 ha⟩,by omega,?_⟩
   exact leQ
 ·have gi:decide ((i:Int)<l.length)=false:=decide_eq_false (by omega)
  obtain rfl:i=l.length:=by omega
  rw[List.take_length] at ha
  rw[ha,Bool.and_true,show(!l.isEmpty)=decide ((l.length:Int)>0) by cases l with|nil=>rfl|cons a r=>exact(decide_eq_true (by simp only[List.length_cons];omega)).symm]
  (repeat'((conv=>whnf);refine NBr.neg asQ ?_));(all_goals(conv=>whnf))
  all_goals exact NEnd.eq leQ
theorem wR {t:Tr} (h:t.ok) (hl:t.enc.length≤3006):(Ax t).oid.length≤21*t.enc.length+63∧(Ax t).by'.length≤t.enc.length+2∧(Ax t).tx.length≤4*t.enc.length∧(nmE (Ax t).nm).length≤63*t.enc.length+140∧(Ax t).av.length≤4*t.enc.length+16∧(Ax t).pv.length≤4*t.enc.length+16:=by
 obtain⟨a1,a2⟩:=Kb h 0
 obtain⟨b1,b2⟩:=Kb h 1
 have p0:=t.parts
 have p1:=(t.kid 1).parts
 have v0:=Ly h 0
 have v1:=Ly a1 0
 have v2:=Ly b1 0
 have n0:=FQ a1 (by omega)
 have o0:=Pe (t.kid 0).v
 have o1:=Pe t.v
 have d0:=H2 22 t.v
 have d1:=H2 ((t.kid 0).kid 0).n ((t.kid 0).kid 0).v
 have d2:=H2 ((t.kid 1).kid 0).n ((t.kid 1).kid 0).v
 have hz:(nmE []).length=2:=by decide+kernel
 have z0:([]:List UInt8).length=0:=rfl
 obtain⟨c,n,k,b,ks⟩:=t
 generalize he:(Tr.mk c n k b ks).enc.length=e at*
 by_cases hn:n≤8
 ·rcases(by omega:n=0∨n=1∨n=2∨n=3∨n=4∨n=5∨n=6∨n=7∨n=8) with rfl|rfl|rfl|rfl|rfl|rfl|rfl|rfl|rfl
  case inr.inr.inr.inr.inr.inl=>
   rw[show Ax (.mk c 5 k b ks)=if isT ((Tr.mk c 5 k b ks).kid 0) 2 0 true then⟨5,[],[],[],[],M2 (((Tr.mk c 5 k b ks).kid 0).kid 0),M3 (((Tr.mk c 5 k b ks).kid 0).kid 0),M2 (((Tr.mk c 5 k b ks).kid 1).kid 0),M3 (((Tr.mk c 5 k b ks).kid 1).kid 0)⟩ else⟨5,[],[],[],[],0,[],M2 (((Tr.mk c 5 k b ks).kid 0).kid 0),M3 (((Tr.mk c 5 k b ks).kid 0).kid 0)⟩ from rfl]
   split
   ·exact⟨Nat.le_trans (Nat.le_of_eq z0) (by omega),Nat.le_trans (Nat.le_of_eq z0) (by omega),Nat.le_trans (Nat.le_of_eq z0) (by omega),Nat.le_trans (Nat.le_of_eq hz) (by omega),Nat.le_trans d1 (by omega),Nat.le_trans d2 (by omega)⟩
   ·exact⟨Nat.le_trans (Nat.le_of_eq z0) (by omega),Nat.le_trans (Nat.le_of_eq z0) (by omega),Nat.le_trans (Nat.le_of_eq z0) (by omega),Nat.le_trans (Nat.le_of_eq hz) (by omega),Nat.le_trans (Nat.le_of_eq z0) (by omega),Nat.le_trans d1 (by omega)⟩
  all_goals(refine⟨?_,?_,?_,?_,?_,?_⟩<;>first|exact Nat.le_trans o0 (by omega)|exact Nat.le_trans o1 (by omega)|exact Nat.le_trans d0 (by omega)|exact Nat.le_trans n0 (by omega)|exact Nat.le_trans (Nat.le_of_eq hz) (by omega)|exact Nat.le_trans (Nat.le_of_eq z0) (by omega)|(show(Tr.encs _).length≤_;omega)|(show b.length≤_;simp only[Tr.v] at p0;omega))
 ·obtain⟨m,rfl⟩:∃m,n=m+9:=⟨n-9,by omega⟩
  refine⟨?_,?_,?_,?_,?_,?_⟩<;>first|exact Nat.le_trans (Nat.le_of_eq hz) (by omega)|exact Nat.le_trans (Nat.le_of_eq z0) (by omega)
theorem wS {t:Tr} (h:t.ok) (hl:t.enc.length≤3006):(gnE (Ax t)).length≤400*t.enc.length:=by
 obtain⟨q1,q2,q3,q4,q5,q6⟩:=wR h hl
 have hc:=dF (lJ h hl) (BE h hl)
 have he:=t.enc_two
 have:=Al 2 (Ax t).k.toNat (C8 (Ax t).k) ((Dm (Ax t)).getD []) (by omega)
 unfold gnE;omega
theorem Dq (c n:Nat) (k:Bool) (l:List UInt8):l.length+2≤(Ae c n k l).length:=by
 have:=Xa l.length
 unfold Ae;rw[D4];omega
theorem Pm {α:Type} (f:α→List UInt8) (k:Nat):∀{l:List α},(∀x∈l,k≤(f x).length)→k*l.length≤(l.map f).flatten.length
 |[],_=>by simp
 |x::r,h=>by
  have h1:=h x (by simp)
  have h2:=Pm f k (l:=r) fun y hy=>h y (by simp[hy])
  rw[List.map_cons,List.flatten_cons,List.length_append,List.length_cons,Nat.mul_add];omega
theorem Xc {a:Att} (h:Ie a=true):a.sm∧(atE a).length≤212+a.val.length:=by
 unfold Ie at h
 simp only[Bool.and_eq_true,decide_eq_true_eq] at h
 obtain⟨h1,h2⟩:=h
 have k1:=Yq a.oid
 have k2:=Al 0 6 false (Au a.oid) (by omega)
 have k3:=Al 0 16 true (Ae 0 6 false (Au a.oid)++a.val) (by rw[List.length_append];omega)
 rw[List.length_append] at k3
 exact⟨⟨by omega,by omega⟩,by unfold atE;omega⟩
theorem U8:∀{r:List Att},r.all Ie=true→(r.map atE).flatten.length≤212*r.length+Kq r
 |[],_=>by simp[Kq]
 |a::r,h=>by
  rw[List.all_cons,Bool.and_eq_true] at h
  have h1:=(Xc h.1).2
  have h2:=U8 h.2
  unfold Kq at h2⊢
  rw[List.map_cons,List.flatten_cons,List.length_append,List.map_cons,List.sum_cons,List.length_cons];omega
theorem U9 {r:List Att} (h:Ez r=true):rdnZ r∧(Bw r).length≤1702+Kq r:=by
 obtain⟨h1,h2,h3⟩:=J9 h
 have h4:=U8 h2
 have h5:=Al 0 17 true (r.map atE).flatten (by omega)
 exact⟨⟨by omega,fun a ha=>(Xc (List.all_eq_true.1 h2 a ha)).1,by omega⟩,by unfold Bw;omega⟩
theorem Rh:∀{n:List (List Att)},n.all Ez=true→(n.map Bw).flatten.length≤1702*n.length+Jg n
 |[],_=>by simp[Jg]
 |a::r,h=>by
  rw[List.all_cons,Bool.and_eq_true] at h
  have h1:=(U9 h.1).2
  have h2:=Rh h.2
  unfold Jg at h2⊢
  rw[List.map_cons,List.flatten_cons,List.length_append,List.map_cons,List.sum_cons,List.length_cons];omega
theorem dG {n:List (List Att)} (h:Fv n=true):nmZ n∧(nmE n).length≤19026:=by
 obtain⟨h1,h2,h3⟩:=Iw h
 have h4:=Rh h2
 have h5:=Al 0 16 true (n.map Bw).flatten (by omega)
 exact⟨⟨by omega,fun r hr=>(U9 (List.all_eq_true.1 h2 r hr)).1,by omega⟩,by unfold nmE;omega⟩
theorem Se {g:Gn} (h:Ig g=true):g.mid∧(gnE g).length≤23392:=by
 obtain⟨h1,h2,h3,h4,h5,h6⟩:=Le h
 obtain⟨n1,n2⟩:=dG h4
 have hz:g.zz:=⟨by omega,by omega,by omega,n1,by omega,by omega⟩
 have hc:=dF hz (by omega)
 have:=Al 2 g.k.toNat (C8 g.k) ((Dm g).getD []) (by omega)
 exact⟨⟨hz.s,by omega⟩,by unfold gnE;omega⟩
theorem wT {l:List Gn} (h:Ci l=true):l.length≤8∧gnsM l∧(l.map gnE).flatten.length≤187136:=by
 obtain⟨h1,h2,-⟩:=M9 h
 have h3:∀l:List Gn,l.all Ig=true→(l.map gnE).flatten.length≤23392*l.length:=by
  intro l
  induction l with
  |nil=>simp
  |cons a r ih=>
   intro h
   rw[List.all_cons,Bool.and_eq_true] at h
   have h1:=(Se h.1).2
   have h2:=ih h.2
   rw[List.map_cons,List.flatten_cons,List.length_append,List.length_cons];omega
 have h4:=h3 l h2
 exact⟨h1,⟨by omega,fun g hg=>(Se (List.all_eq_true.1 h2 g hg)).1,by omega⟩,by omega⟩
theorem HE {a:Att} (h:atV a=true) (hl:(atE a).length≤400000):a.sm∧4≤(atE a).length:=by
 obtain⟨h1,-⟩:=R9 h
 have h3:=Ug h1
 have h4:=Dq 0 6 false (Au a.oid)
 have h5:=Dq 0 16 true (Ae 0 6 false (Au a.oid)++a.val)
 rw[List.length_append] at h5
 have e:(atE a).length=(Ae 0 16 true (Ae 0 6 false (Au a.oid)++a.val)).length:=rfl
 exact⟨⟨by omega,by omega⟩,by omega⟩
theorem FS {r:List Att} (h:E0 r=true) (hl:(Bw r).length≤400000):rdnZ r∧4≤(Bw r).length:=by
 obtain⟨h0,h1,-⟩:=Sa h
 have h2:=Dq 0 17 true (r.map atE).flatten
 have e:(Bw r).length=(Ae 0 17 true (r.map atE).flatten).length:=rfl
 have h3:∀a∈r,a.sm∧4≤(atE a).length:=fun a ha=>by
  have:=Fz (List.mem_map_of_mem (f:=atE) ha)
  exact HE (List.all_eq_true.1 h1 a ha) (by omega)
 have h4:=Pm atE 4 fun a ha=>(h3 a ha).2
 have h5:1≤r.length:=by cases r with|nil=>exact absurd rfl h0|cons _ _=>simp
 exact⟨⟨by omega,fun a ha=>(h3 a ha).1,by omega⟩,by omega⟩
theorem HH {n:List (List Att)} (h:nmV n=true) (hl:(nmE n).length≤400000):nmZ n:=by
 have h2:=Dq 0 16 true (n.map Bw).flatten
 have e:(nmE n).length=(Ae 0 16 true (n.map Bw).flatten).length:=rfl
 have h3:∀r∈n,rdnZ r∧4≤(Bw r).length:=fun r hr=>by
  have:=Fz (List.mem_map_of_mem (f:=Bw) hr)
  exact FS (List.all_eq_true.1 h r hr) (by omega)
 have h4:=Pm Bw 4 fun r hr=>(h3 r hr).2
 exact⟨by omega,fun r hr=>(h3 r hr).1,by omega⟩
theorem wU {k:Int} {l:List UInt8} (h:Af k l=true):l.length≤4*(chS k l).length:=by
 have:=H2 k (chS k l)
 rwa[(Qi h).2.1] at this
theorem wV {k:Int} {l:List UInt8} (h:Af k l=true):l.length≤4*(txE k l).length:=by
 have h1:=wU h
 have h2:=Dq 0 k.toNat false (chS k l)
 unfold txE;omega
theorem BH {g:Gn} (h:gnW g=true) (hl:(gnE g).length≤400000):g.mid:=by
 obtain⟨h1,-,⟨c,h3⟩,h4⟩:=(Ms g).1 h
 have hc:c.length≤400000:=by
  have:=Dq 2 g.k.toNat (C8 g.k) ((Dm g).getD [])
  have e:(gnE g).length=(Ae 2 g.k.toNat (C8 g.k) ((Dm g).getD [])).length:=rfl
  rw[h3] at this e
  have e2:((some c).getD [])=c:=rfl
  rw[e2] at this e;omega
 refine⟨?_,by rw[h3];show c.length≤_;omega⟩
 obtain⟨m,hm,hk⟩:=N5 h3
 obtain⟨k,oid,tx,by',nm,ak,av,pk,pv⟩:=g
 rw[C6] at h1
 obtain⟨a1,a2,a3,a4,a5⟩:=h1
 simp only at hk a1 a2 a3 a4 a5
 subst hk
 unfold Dm at h3
 simp only at h3
 have l0:([]:List UInt8).length=0:=rfl
 rcases(by omega:m=0∨m=1∨m=2∨m=3∨m=4∨m=5∨m=6∨m=7∨m=8) with rfl|rfl|rfl|rfl|rfl|rfl|rfl|rfl|rfl
 ·obtain rfl:tx=[]:=by simpa using a2
  obtain rfl:nm=[]:=by simpa using a4
  obtain⟨⟨rfl,rfl⟩,rfl,rfl⟩:(ak=0∧av=[])∧pk=0∧pv=[]:=by simpa using a5
  rw[if_pos (by rfl)] at h3
  by_cases ho:Dz oid=true
  ·rw[if_pos ho] at h3
   obtain rfl:=Option.some.inj h3
   have:=Ug ho
   have:=Dq 0 6 false (Au oid)
   have:=Dq 2 0 true by'
   rw[List.length_append] at hc
   exact⟨by show oid.length≤_;omega,by simp,by show by'.length≤_;omega,Dp,by simp,by simp⟩
  ·rw[if_neg ho] at h3;cases h3
 case inr.inr.inr.inl=>
  obtain rfl:oid=[]:=by simpa using a1
  obtain rfl:tx=[]:=by simpa using a2
  obtain rfl:nm=[]:=by simpa using a4
  obtain⟨⟨rfl,rfl⟩,rfl,rfl⟩:(ak=0∧av=[])∧pk=0∧pv=[]:=by simpa using a5
  rw[if_neg (by decide),if_neg (by decide),if_pos (by decide)] at h3
  obtain rfl:=Option.some.inj h3
  exact⟨by simp,by simp,by show by'.length≤_;omega,Dp,by simp,by simp⟩
 case inr.inr.inr.inr.inl=>
  obtain rfl:oid=[]:=by simpa using a1
  obtain rfl:tx=[]:=by simpa using a2
  obtain rfl:by'=[]:=by simpa using a3
  obtain⟨⟨rfl,rfl⟩,rfl,rfl⟩:(ak=0∧av=[])∧pk=0∧pv=[]:=by simpa using a5
  rw[if_neg (by decide),if_neg (by decide),if_neg (by decide),if_pos (by rfl)] at h3
  by_cases ho:nmV nm=true
  ·rw[if_pos ho] at h3
   obtain rfl:=Option.some.inj h3
   exact⟨by simp,by simp,by simp,HH ho hc,by simp,by simp⟩
  ·rw[if_neg ho] at h3;cases h3
 case inr.inr.inr.inr.inr.inl=>
  obtain rfl:oid=[]:=by simpa using a1
  obtain rfl:tx=[]:=by simpa using a2
  obtain rfl:by'=[]:=by simpa using a3
  obtain rfl:nm=[]:=by simpa using a4
  rw[if_neg (by decide),if_neg (by decide),if_neg (by decide),if_neg (by decide),if_pos (by rfl)] at h3
  unfold Lv at h3
  simp only at h3
  by_cases hh:((zT ak av||Af ak av)&&Af pk pv)=true
  ·rw[if_pos hh] at h3
   obtain rfl:=Option.some.inj h3
   rw[Bool.and_eq_true,Bool.or_eq_true] at hh
   have k1:=wV hh.2
   have k2:=Dq 2 1 true (txE pk pv)
   rw[List.length_append] at hc
   refine⟨by simp,by simp,by simp,Dp,?_,by show pv.length≤_;omega⟩
   show av.length≤_
   by_cases hz:zT ak av=true
   ·rw[(Qj.1 hz).2];simp
   ·rw[if_neg hz] at hc
    have k3:=wV (hh.1.resolve_left hz)
    have k4:=Dq 2 0 true (txE ak av)
    omega
  ·rw[if_neg hh] at h3;cases h3
 case inr.inr.inr.inr.inr.inr.inr.inl=>
  obtain rfl:oid=[]:=by simpa using a1
  obtain rfl:tx=[]:=by simpa using a2
  obtain rfl:nm=[]:=by simpa using a4
  obtain⟨⟨rfl,rfl⟩,rfl,rfl⟩:(ak=0∧av=[])∧pk=0∧pv=[]:=by simpa using a5
  rw[if_neg (by decide),if_neg (by decide),if_pos (by decide)] at h3
  obtain rfl:=Option.some.inj h3
  exact⟨by simp,by simp,by show by'.length≤_;omega,Dp,by simp,by simp⟩
 case inr.inr.inr.inr.inr.inr.inr.inr=>
  obtain rfl:tx=[]:=by simpa using a2
  obtain rfl:by'=[]:=by simpa using a3
  obtain rfl:nm=[]:=by simpa using a4
  obtain⟨⟨rfl,rfl⟩,rfl,rfl⟩:(ak=0∧av=[])∧pk=0∧pv=[]:=by simpa using a5
  rw[if_neg (by decide),if_neg (by decide),if_neg (by decide),if_neg (by decide),if_neg (by decide),if_pos (by rfl)] at h3
  by_cases ho:Dz oid=true
  ·rw[if_pos ho] at h3
   obtain rfl:=Option.some.inj h3
   have:=Ug ho
   exact⟨by show oid.length≤_;omega,by simp,by simp,Dp,by simp,by simp⟩
  ·rw[if_neg ho] at h3;cases h3
 all_goals
  obtain rfl:oid=[]:=by simpa using a1
  obtain rfl:by'=[]:=by simpa using a3
  obtain rfl:nm=[]:=by simpa using a4
  obtain⟨⟨rfl,rfl⟩,rfl,rfl⟩:(ak=0∧av=[])∧pk=0∧pv=[]:=by simpa using a5
  rw[if_neg (by decide),if_pos (by decide)] at h3
  by_cases ho:Af 22 tx=true
  ·rw[if_pos ho] at h3
   obtain rfl:=Option.some.inj h3
   have:=wU ho
   exact⟨by simp,by show tx.length≤_;omega,by simp,Dp,by simp,by simp⟩
  ·rw[if_neg ho] at h3;cases h3
def dH (g:Gn):List D:=[iD g.k,sD g.oid,sD g.tx,Ac true g.by',Ng g.nm,iD g.ak,sD g.av,iD g.pk,sD g.pv]
def Gw (l:List Gn):D:=F4 true 9 dH l
theorem lM (g:Gn):D.uns (dH g)=gnC g:=by simp only[dH,gnC,D.uns,Ah,By,D.un]
theorem lN (l:List Gn):D.uns (l.flatMap dH)=l.flatMap gnC:=by
 induction l with
 |nil=>rfl
 |cons g r ih=>rw[List.flatMap_cons,D.uns_app,lM,ih,List.flatMap_cons]
theorem Pn (l:List Gn):(Gw l).un=Df l:=by
 show D.sl false l.length 9 (D.uns (l.flatMap dH))=_
 rw[lN];rfl
theorem BI {l:List Gn} (h:∀g∈l,g.mid):Zc l=Zk l:=by
 unfold Zc Zk
 congr 1
 induction l with
 |nil=>rfl
 |cons a r ih=>rw[List.all_cons,List.all_cons,vL (h a (by simp)),ih fun g hg=>h g (by simp[hg])]
theorem pU (g:Gn) (h:g.mid):Aa Tryz.prog 21 [gnA g] (fun r=>r=Qh (gnW g) (gnE g)):=by
 have hM:=Uz g h.s h.c
 rwa[vL h] at hM
theorem iQ (l:List Gn) (h:gnsM l):Aa Tryz.prog 27 [.d (Df l)] (fun r=>r=bv (Zk l)):=by
 have hM:=cQ l h
 rwa[BI h.m] at hM
theorem FT {g:Gn} (h:gnW g=true) (hs:g.mid):∃t:Tv,t.ok∧gnE g=t.enc:=by
 obtain⟨-,-,⟨c,h3⟩,-⟩:=(Ms g).1 h
 obtain⟨n,hn,hk⟩:=N5 h3
 exact⟨⟨2,g.k.toNat,C8 g.k,(Dm g).getD []⟩,⟨by show(2:Nat)≤3;omega,by show g.k.toNat≤30;omega,by have:=hs.c;show((Dm g).getD []).length≤_;omega⟩,rfl⟩
def Va (ms:List Gn):Option (List Gn)×Nat×Nat→Option (List Gn)×Nat×Nat
 |(some r,_)=>(some (ms++r),0,0)
 |(none,p)=>(none,p)
def IH:Option (List Gn)×Nat×Nat→AV
 |(some gs,_)=> .tup [.d (Gw gs),erA 0 0]
 |(none,c,p)=> .tup [Ao,erA c p]
theorem L0 {b:Bool} {A B:Prop} (h:b=true) (ha:A):(bif b then A else B):=by subst h;exact ha
theorem pW (n:List (List Att)):(Ng n).fresh=true:=
 P1 1 fun r _=>by
  show((iL r).fresh&&true)=true
  rw[Bool.and_true]
  exact P1 2 fun a _=>by
   show(true&&((Ac true a.val).fresh&&true))=true
   rw[Q3];rfl
theorem iR (g:Gn):D.freshs (dH g)=true:=by
 show(true&&(true&&(true&&((Ac true g.by').fresh&&((Ng g.nm).fresh&&(true&&(true&&(true&&(true&&true)))))))))=true
 rw[Q3,pW];rfl
theorem Vb (l:List Gn):(Gw l).fresh=true:=P1 9 fun g _=>iR g
def Qm (i:Nat) (b:List UInt8):List UInt8:=(b.take i).map (fun x=>UInt8.ofNat (x.toNat+1))++b.drop i
theorem Zl (i:Nat) (b:List UInt8):(Qm i b).length=b.length:=by
 unfold Qm
 rw[List.length_append,List.length_map,List.length_take,List.length_drop];omega
theorem iS {i:Nat} {b:List UInt8} {x:UInt8} (h:b[i]?=some x):(Qm i b)[i]?=some x:=by
 have hi:=(List.getElem?_eq_some_iff.1 h).1
 unfold Qm
 rw[List.getElem?_append_right (by rw[List.length_map,List.length_take];omega),List.length_map,List.length_take,List.getElem?_drop,←h]
 congr 1;omega
theorem Zm {i:Nat} {b:List UInt8} {x:UInt8} (h:b[i]?=some x):(Qm i b).set i (UInt8.ofNat (x.toNat+1))=Qm (i+1) b:=by
 obtain⟨hi,he⟩:=List.getElem?_eq_some_iff.1 h
 unfold Qm
 have hl:((b.take i).map fun x=>UInt8.ofNat (x.toNat+1)).length=i:=by rw[List.length_map,List.length_take];omega
 rw[List.set_append_right _ _ (by omega),hl,Nat.sub_self,List.take_succ_eq_append_getElem hi,List.map_append,he,List.append_assoc,List.drop_eq_getElem_cons hi]
 rfl
end Go.Proofs.YtgmbmfoabndmoaaGreatDoor
