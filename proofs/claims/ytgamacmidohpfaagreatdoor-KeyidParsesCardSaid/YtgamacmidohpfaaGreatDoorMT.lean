/- MT: the texts Rz R13P GenS GenW GenV, one behind the other. No condition but what each lemma says. -/
import Derived.Test.YtgamacmidohpfaaGreatDoorMS
import Derived.Test.YtgamacmidohpfaaGreatDoorMM
import Derived.Test.YtgamacmidohpfaaGreatDoorMI
import Derived.Test.YtgamacmidohpfaaGreatDoorMH
set_option maxRecDepth 100000
set_option maxHeartbeats 16000000
namespace Go.Proofs.YtgamacmidohpfaaGreatDoor
open Go.RowKit
theorem Hv (k:Int) (c:List UInt8):(Bv k c).length≤4*c.length:=by
 unfold Bv
 split
 ·simp
 split
 ·unfold Ed
  split
  ·omega
  ·have:=H1 (Aj k).toNat c (c.length/(Aj k).toNat)
   have:=Nat.div_le_self c.length (Aj k).toNat
   omega
 ·simp
theorem Uj {f:Tr→List UInt8} {C:Nat}:∀{l:List Tr},(∀k∈l,(f k).length≤C*k.enc.length)→(l.map f).flatten.length≤C*(Tr.encs l).length
 |[],_=>by simp
 |x::r,h=>by
  have h1:=h x (by simp)
  have h2:=Uj (f:=f) (C:=C) (l:=r) fun k hk=>h k (by simp[hk])
  rw[List.map_cons,List.flatten_cons,List.length_append,Tr.encs,List.length_append,Nat.mul_add];omega
theorem zY (t:Tr) (i:Nat):(Yr t i).length≤t.enc.length:=by
 unfold Yr
 split
 ·rename_i k hk
  have:=Tr.mem_le (List.mem_of_getElem? hk)
  have:=t.parts;omega
 ·simp
theorem Ll {t:Tr} (h:t.ok) (i:Nat):(t.kid i).v.length≤t.enc.length+2:=by
 have:=(Lf h i).2;have:=(t.kid i).parts;omega
theorem Lm {t:Tr} (h:t.ok):∀k∈t.ks,k.ok∧k.enc.length≤t.enc.length:=fun k hk=>
 ⟨Tr.oks_mem (Tr.ok_ks h) k hk,by have:=Tr.mem_le hk;have:=t.parts;omega⟩
theorem vG {t:Tr} (h:t.ok) (hl:t.enc.length≤10000):insOk t:=
 ⟨by have:=Tr.encs_two t.ks;have:=t.parts;omega,fun k hk=>(Lm h k hk).1,by have:=t.parts;omega⟩
theorem FZ {t:Tr} (h:t.ok) (hl:t.enc.length≤10000):t.at:=
 ⟨by have:=Ll h 0;omega,fun k hk=>by obtain⟨a,b⟩:=Lm h k (List.mem_of_getElem? hk);exact⟨a,by omega⟩⟩
theorem GA {t:Tr} (h:t.ok) (hl:t.enc.length≤10000):t.nm:=
 ⟨by have:=Tr.encs_two t.ks;have:=t.parts;omega,fun k hk=>by
   obtain⟨a,b⟩:=Lm h k hk
   refine⟨by have:=Tr.encs_two k.ks;have:=k.parts;omega,fun j hj=> ?_⟩
   obtain⟨c,d⟩:=Lm a j hj
   exact FZ c (by omega)⟩
theorem GB {t:Tr} (h:t.ok) (hl:t.enc.length≤9000):t.gn:=by
 obtain⟨a1,a2⟩:=Lf h 0
 obtain⟨b1,b2⟩:=Lf h 1
 exact⟨by have:=t.parts;omega,by have:=Ll h 0;omega,vG h (by omega),vG b1 (by omega),GA a1 (by omega),by have:=Ll a1 0;omega,by have:=Ll b1 0;omega⟩
theorem vH {t:Tr} (h:t.ok) (hl:t.enc.length≤3010):(Oz t).sm∧(atE (Oz t)).length≤60*t.enc.length:=by
 have h1:=Ot (t.kid 0).v
 have h2:=Ll h 0
 have h3:=zY t 1
 have h4:=t.enc_two
 have h5:=Xy (odT (t.kid 0).v)
 have h6:=Ak 0 6 false (A0 (odT (t.kid 0).v)) (by omega)
 have h7:=Ak 0 16 true (Ae 0 6 false (A0 (odT (t.kid 0).v))++Yr t 1) (by rw[List.length_append];omega)
 rw[List.length_append] at h7
 refine⟨⟨by show(odT _).length≤_;omega,by show(Yr t 1).length≤_;omega⟩,?_⟩
 show(Ae 0 16 true (Ae 0 6 false (A0 (odT (t.kid 0).v))++Yr t 1)).length≤_
 omega
theorem Yt {t:Tr} (h:t.ok) (hl:t.enc.length≤3010):rdnZ (F4 t)∧(By (F4 t)).length≤63*t.enc.length:=by
 have hp:=t.parts
 have hc:=Tr.encs_two t.ks
 have he:=t.enc_two
 have hk:∀k∈t.ks,(atE (Oz k)).length≤60*k.enc.length:=fun k hk=>by
  obtain⟨a,b⟩:=Lm h k hk
  exact(vH a (by omega)).2
 have hm:=Uj (f:=fun k=>atE (Oz k)) hk
 have hf:((F4 t).map atE).flatten.length≤60*(Tr.encs t.ks).length:=by
  unfold F4;rw[List.map_map];exact hm
 have h7:=Ak 0 17 true ((F4 t).map atE).flatten (by omega)
 refine⟨⟨by unfold F4;rw[List.length_map];omega,fun a ha=> ?_,by omega⟩,by unfold By;omega⟩
 obtain⟨k,hkm,rfl⟩:=List.mem_map.1 ha
 obtain⟨x,y⟩:=Lm h k hkm
 exact(vH x (by omega)).1
theorem vI {t:Tr} (h:t.ok) (hl:t.enc.length≤3010):nmZ (Lk t)∧(nmE (Lk t)).length≤200000:=by
 have hp:=t.parts
 have hc:=Tr.encs_two t.ks
 have hk:∀k∈t.ks,(By (F4 k)).length≤63*k.enc.length:=fun k hk=>by
  obtain⟨a,b⟩:=Lm h k hk
  exact(Yt a (by omega)).2
 have hm:=Uj (f:=fun k=>By (F4 k)) hk
 have hf:((Lk t).map By).flatten.length≤63*(Tr.encs t.ks).length:=by
  unfold Lk;rw[List.map_map];exact hm
 have h7:=Ak 0 16 true ((Lk t).map By).flatten (by omega)
 refine⟨⟨by unfold Lk;rw[List.length_map];omega,fun a ha=> ?_,by omega⟩,by unfold nmE;omega⟩
 obtain⟨k,hkm,rfl⟩:=List.mem_map.1 ha
 obtain⟨x,y⟩:=Lm h k hkm
 exact(Yt x (by omega)).1
theorem EQ {t:Tr} (h:t.ok) (hl:t.enc.length≤3010):(nmE (Lk t)).length≤63*t.enc.length+6:=by
 have hp:=t.parts
 have hm:=Uj (f:=fun k=>By (F4 k)) (C:=63) (l:=t.ks) fun k hk=>by
  obtain⟨a,b⟩:=Lm h k hk
  exact(Yt a (by omega)).2
 have hf:((Lk t).map By).flatten.length≤63*(Tr.encs t.ks).length:=by
  unfold Lk;rw[List.map_map];exact hm
 have h7:=Ak 0 16 true ((Lk t).map By).flatten (by omega)
 unfold nmE;omega
theorem Dp:nmZ []:=⟨by simp,by simp,by simp⟩
theorem jS {t:Tr} (h:t.ok) (hl:t.enc.length≤3006):(A1 t).zz:=by
 obtain⟨a1,a2⟩:=Lf h 0
 obtain⟨b1,b2⟩:=Lf h 1
 have p0:=t.parts
 have p1:=(t.kid 1).parts
 have v0:=Ll h 0
 have v1:=Ll a1 0
 have v2:=Ll b1 0
 have n0:=(vI a1 (by omega)).1
 have o0:=Ot (t.kid 0).v
 have o1:=Ot t.v
 have d0:=Hv 22 t.v
 have d1:=Hv ((t.kid 0).kid 0).n ((t.kid 0).kid 0).v
 have d2:=Hv ((t.kid 1).kid 0).n ((t.kid 1).kid 0).v
 obtain⟨c,n,k,b,ks⟩:=t
 simp only[Tr.v] at p0 o1 d0
 by_cases hn:n≤8
 ·rcases(by omega:n=0∨n=1∨n=2∨n=3∨n=4∨n=5∨n=6∨n=7∨n=8) with rfl|rfl|rfl|rfl|rfl|rfl|rfl|rfl|rfl
  ·exact⟨by show(odT _).length≤_;omega,by simp[A1,Tr.n],by show(Tr.encs _).length≤_;omega,Dp,by simp[A1,Tr.n],by simp[A1,Tr.n]⟩
  ·exact⟨by simp[A1,Tr.n],by show(Bv 22 b).length≤_;omega,by simp[A1,Tr.n],Dp,by simp[A1,Tr.n],by simp[A1,Tr.n]⟩
  ·exact⟨by simp[A1,Tr.n],by show(Bv 22 b).length≤_;omega,by simp[A1,Tr.n],Dp,by simp[A1,Tr.n],by simp[A1,Tr.n]⟩
  ·exact⟨by simp[A1,Tr.n],by simp[A1,Tr.n],by show(Tr.encs _).length≤_;omega,Dp,by simp[A1,Tr.n],by simp[A1,Tr.n]⟩
  ·exact⟨by simp[A1,Tr.n],by simp[A1,Tr.n],by simp[A1,Tr.n],n0,by simp[A1,Tr.n],by simp[A1,Tr.n]⟩
  ·show Gn.zz (if _ then _ else _)
   split
   ·exact⟨by simp,by simp,by simp,Dp,Nat.le_trans d1 (by omega),Nat.le_trans d2 (by omega)⟩
   ·exact⟨by simp,by simp,by simp,Dp,by simp,Nat.le_trans d1 (by omega)⟩
  ·exact⟨by simp[A1,Tr.n],by show(Bv 22 b).length≤_;omega,by simp[A1,Tr.n],Dp,by simp[A1,Tr.n],by simp[A1,Tr.n]⟩
  ·exact⟨by simp[A1,Tr.n],by simp[A1,Tr.n],by show b.length≤_;omega,Dp,by simp[A1,Tr.n],by simp[A1,Tr.n]⟩
  ·exact⟨Nat.le_trans o1 (by omega),by simp[A1,Tr.n],by simp[A1,Tr.n],Dp,by simp[A1,Tr.n],by simp[A1,Tr.n]⟩
 ·obtain⟨m,rfl⟩:∃m,n=m+9:=⟨n-9,by omega⟩
  exact⟨by simp[A1,Tr.n],by simp[A1,Tr.n],by simp[A1,Tr.n],Dp,by simp[A1,Tr.n],by simp[A1,Tr.n]⟩
theorem cE {g:Gn} (h:g.zz) (hn:(nmE g.nm).length≤200000):((Dh g).getD []).length≤g.oid.length+g.by'.length+4*g.tx.length+(nmE g.nm).length+4*g.av.length+4*g.pv.length+60:=by
 have h1:=Xy g.oid
 have:=h.o;have:=h.t;have:=h.b;have:=h.a;have:=h.p
 unfold Dh
 split
 ·split
  ·have h6:=Ak 0 6 false (A0 g.oid) (by omega)
   have h7:=Ak 2 0 true g.by' (by omega)
   show(_++_:List UInt8).length≤_
   rw[List.length_append];omega
  ·simp
 split
 ·split
  ·rename_i hv
   have:=Fm hv
   show(chS 22 g.tx).length≤_
   omega
  ·simp
 split
 ·show g.by'.length≤_;omega
 split
 ·split
  ·show(nmE g.nm).length≤_;omega
  ·simp
 split
 ·unfold Li
  split
  ·rename_i hv
   rw[Bool.and_eq_true] at hv
   have l2:=E7 hv.2 h.p
   have x2:=Ak 2 1 true (txE g.pk g.pv) (by omega)
   show((if _ then _ else _)++_:List UInt8).length≤_
   rw[List.length_append]
   split
   ·simp;omega
   ·rename_i hz
    have hz:zT g.ak g.av=false:=by simpa using hz
    rw[hz,Bool.false_or] at hv
    have l1:=E7 hv.1 h.a
    have x1:=Ak 2 0 true (txE g.ak g.av) (by omega)
    omega
  ·simp
 split
 ·split
  ·show(A0 g.oid).length≤_;omega
  ·simp
 ·simp
theorem zZ {t:Tr} (h:t.ok) (hl:t.enc.length≤3006):(nmE (A1 t).nm).length≤200000:=by
 obtain⟨a1,a2⟩:=Lf h 0
 have h0:=(vI a1 (by omega)).2
 have hz:(nmE []).length≤200000:=by decide+kernel
 obtain⟨c,n,k,b,ks⟩:=t
 by_cases hn:n≤8
 ·rcases(by omega:n=0∨n=1∨n=2∨n=3∨n=4∨n=5∨n=6∨n=7∨n=8) with rfl|rfl|rfl|rfl|rfl|rfl|rfl|rfl|rfl
  ·exact hz
  ·exact hz
  ·exact hz
  ·exact hz
  ·exact h0
  ·show(nmE (Gn.nm (if _ then _ else _))).length≤_
   split
   ·exact hz
   ·exact hz
  ·exact hz
  ·exact hz
  ·exact hz
 ·obtain⟨m,rfl⟩:∃m,n=m+9:=⟨n-9,by omega⟩
  exact hz
def gF (g:Gn):List D:=[iD g.k,sD g.oid,sD g.tx,Ac false g.by',Qu g.nm,iD g.ak,sD g.av,iD g.pk,sD g.pv]
def AA (l:List Gn):D:=G3 true 9 gF l
theorem AB (g:Gn):D.uns (gF g)=gnC g:=by simp only[gF,gnC,D.uns,Ag,Bq,D.un]
theorem D.uns_app (a b:List D):D.uns (a++b)=D.uns a++D.uns b:=by
 induction a with
 |nil=>rfl
 |cons x r ih=>show D.un x::D.uns (r++b)=D.un x::(D.uns r++D.uns b);rw[ih]
theorem Ru (l:List Gn):D.uns (l.flatMap gF)=l.flatMap gnC:=by
 induction l with
 |nil=>rfl
 |cons g r ih=>rw[List.flatMap_cons,D.uns_app,AB,ih,List.flatMap_cons]
theorem J8 (l:List Gn):(AA l).un=Fw l:=by
 show D.sl false l.length 9 (D.uns (l.flatMap gF))=_
 rw[Ru];rfl
theorem ER {α:Type} (f:α→Bool) {l:List α} {i:Nat} {x:α} (hg:l[i]?=some x) (hx:f x=false):l.all f=false:=by
 cases hh:l.all f with
 |false=>rfl
 |true=>rw[List.all_eq_true.1 hh x (List.mem_of_getElem? hg)] at hx;cases hx
theorem AC {b:List UInt8} (hb:b.length≤3000):(Dc b).ok∧(Dc b).enc.length≤3002:=by
 have:=yV b;exact⟨this.1,by omega⟩
theorem O0 {p:Prop} (h:p:=by first|rfl|(simp only[AV.gives,AV.ren,AV.give,D.un,D.uns,Ag,Af,List.nil_append,List.append_nil,List.cons_append,Ai,Al,As,Aq,An,Ar,Ax,Ck,Bq,Ce,Bg,Tr.cellss_un,J8,Ru];first|done|rfl)):p:=h
structure gnsZ (l:List Gn):Prop where
 n:l.length≤100000
 z:∀g∈l,Gn.zz g
 e:(l.map gnE).flatten.length≤90000000
def Jl (l:List Gn):Bool:= !l.isEmpty&&l.all gnW
theorem oI (l:List Gn) (hz:gnsZ l):Aa Tryz.prog 25 [.d (Fw l)] (fun r=>r=bv (Jl l)):=by
 obtain⟨hl,hs,-⟩:=hz
 unfold Jl
 refine acQ 19 Tryz.func25 rfl rfl fun _ _ _=> ?_
 (all_goals(conv=>whnf))
 refine NLoop.go (fun i:Nat=>i≤l.length∧(l.take i).all gnW=true) (fun i=>l.length-i) (fun i=>⟨[(0,.d (Fw l)),(3,iv i)],[],[]⟩) 0 ⟨by omega,rfl⟩ leQ ?_
 rintro i ⟨hi,ha⟩
 by_cases hik:i<l.length
 ·have gi:decide ((i:Int)<l.length)=true:=decide_eq_true (by omega)
  obtain⟨x,hg⟩:∃p,l[i]?=some p:=⟨_,List.getElem?_eq_getElem hik⟩
  have hV:=En x (hs x (List.mem_of_getElem? hg))
  cases h1:gnW x
  ·rw[h1] at hV
   rw[ER gnW hg h1,Bool.and_false]
   (repeat'((conv=>whnf);first|refine NBr.pos asQ ?_|refine NBr.yes ?_|refine NIdx.tab (fun _=>rfl) hg ?_|refine NCall.eq hV O0 ?_));(all_goals(conv=>whnf))
   all_goals exact NEnd.eq leQ
  ·rw[h1] at hV
   (repeat'((conv=>whnf);first|refine NBr.pos asQ ?_|refine NBr.no ?_|refine NIdx.tab (fun _=>rfl) hg ?_|refine NCall.eq hV O0 ?_|(with_reducible refine NInt.i64 ?_)));(all_goals(conv=>whnf))
   refine⟨i+1,⟨by omega,Hb gnW hg h1 ha⟩,by omega,?_⟩
   exact leQ
 ·have gi:decide ((i:Int)<l.length)=false:=decide_eq_false (by omega)
  obtain rfl:i=l.length:=by omega
  rw[List.take_length] at ha
  rw[ha,Bool.and_true,show(!l.isEmpty)=decide ((l.length:Int)>0) by cases l with|nil=>rfl|cons a r=>exact(decide_eq_true (by simp only[List.length_cons];omega)).symm]
  (repeat'((conv=>whnf);refine NBr.neg asQ ?_));(all_goals(conv=>whnf))
  all_goals exact NEnd.eq leQ
theorem vJ (x:UInt8) (l:List Gn) (hz:gnsZ l) (hv:l.all gnW=true):Aa Tryz.prog 33 [cv x.toNat,.d (Fw l)] (fun r=>r=Au 0 5 (I3 x (l.map gnE).flatten)):=by
 have hU:=Fj x (l.map gnE) (by rw[List.length_map];have:=hz.n;omega) (by have:=hz.e;omega)
 obtain⟨hl,hs,-⟩:=hz
 refine acQ 30 Tryz.func33 rfl rfl fun _ _ _=> ?_
 (all_goals(conv=>whnf))
 refine NLoop.goA [.s 5 1 22] (fun i:Nat=>i≤l.length) (fun i=>l.length-i) (fun i=>⟨[(0,cv x.toNat),(1,.d (Fw l)),(5,Ce 5 1 22 Ej ((l.take i).map gnE)),(6,iv i)],[],[(5,(((l.take i).map gnE).length,1,22))]⟩) 0 (by omega) leQ ?_
 rintro i hi
 have hml:((l.take i).map gnE).length≤100000:=by rw[List.length_map,List.length_take];omega
 by_cases hik:i<l.length
 ·have gi:decide ((i:Int)<l.length)=true:=decide_eq_true (by omega)
  obtain⟨g,hg⟩:∃p,l[i]?=some p:=⟨_,List.getElem?_eq_getElem hik⟩
  have hM:=vE g (hs g (List.mem_of_getElem? hg))
  rw[List.all_eq_true.1 hv g (List.mem_of_getElem? hg)] at hM
  have hM:Aa Tryz.prog 52 [gnA g] (fun r=>r= .tup [Au 0 5 (gnE g),iv 0]):=hM
  have hs1:=F2 gnE hg
  generalize gnE g=e at hM hs1
  (repeat'((conv=>whnf);first|refine NBr.pos asQ ?_|refine NIdx.tab (fun _=>rfl) hg ?_|refine NCall.eq hM O0 ?_|refine NApp.one Ej e ?_|(with_reducible refine NInt.i64 ?_)));(all_goals(conv=>whnf))
  refine⟨i+1,by omega,by omega,?_⟩
  rw[hs1]
  exact leQ
 ·have gi:decide ((i:Int)<l.length)=false:=decide_eq_false (by omega)
  obtain rfl:i=l.length:=by omega
  rw[List.take_length]
  (repeat'((conv=>whnf);first|refine NBr.neg asQ ?_|refine NCall.eq hU O0 ?_));(all_goals(conv=>whnf))
  all_goals exact NEnd.eq leQ
theorem oJ (t:Tr) (hn:t.ks.length≤100000) (hk:∀k∈t.ks,k.gn):Aa Tryz.prog 58 [trF t] (fun r=>r= .d (AA (t.ks.map A1))):=by
 obtain⟨c,n,k,b,ks⟩:=t
 rw[Bl]
 simp only[Tr.ks] at hn hk⊢
 refine acQ 22 Tryz.func58 rfl rfl fun _ _ _=> ?_
 (all_goals(conv=>whnf))
 refine NLoop.goA [.s 3 9 50] (fun i:Nat=>i≤ks.length) (fun i=>ks.length-i) (fun i=>⟨[(1,.ptr 1 0),(3,Ce 3 9 50 gF ((ks.take i).map A1)),(4,iv i)],[(1,[iv c,iv n,bv k,.d (Ac false b),.d (.sl false ks.length 5 (Tr.cellss false ks))])],[(3,(((ks.take i).map A1).length,9,50))]⟩) 0 (by omega) leQ ?_
 rintro i hi
 have hml:((ks.take i).map A1).length≤100000:=by rw[List.length_map,List.length_take];omega
 by_cases hik:i<ks.length
 ·have gi:decide ((i:Int)<ks.length)=true:=decide_eq_true (by omega)
  obtain⟨x,hg⟩:∃p,ks[i]?=some p:=⟨_,List.getElem?_eq_getElem hik⟩
  have hR:=vF x (hk x (List.mem_of_getElem? hg))
  have hs:=F2 A1 hg
  generalize A1 x=a at hR hs
  obtain⟨c',n',k',b',ks'⟩:=x
  rw[Bl] at hR
  (repeat'((conv=>whnf);first|refine NBr.pos asQ ?_|(refine NIdx.trs hg ?_)|refine NCall.eq hR O0 ?_|refine NApp.one gF a ?_|(with_reducible refine NInt.i64 ?_)));(all_goals(conv=>whnf))
  refine⟨i+1,by omega,by omega,?_⟩
  rw[hs]
  exact leQ
 ·have gi:decide ((i:Int)<ks.length)=false:=decide_eq_false (by omega)
  obtain rfl:i=ks.length:=by omega
  rw[List.take_length]
  (repeat'((conv=>whnf);refine NBr.neg asQ ?_));(all_goals(conv=>whnf))
  all_goals exact NEnd.eq leQ
theorem vK {t:Tr} (h:t.ok) (hl:t.enc.length≤3006):(A1 t).oid.length≤21*t.enc.length+63∧(A1 t).by'.length≤t.enc.length+2∧(A1 t).tx.length≤4*t.enc.length∧(nmE (A1 t).nm).length≤63*t.enc.length+140∧(A1 t).av.length≤4*t.enc.length+16∧(A1 t).pv.length≤4*t.enc.length+16:=by
 obtain⟨a1,a2⟩:=Lf h 0
 obtain⟨b1,b2⟩:=Lf h 1
 have p0:=t.parts
 have p1:=(t.kid 1).parts
 have v0:=Ll h 0
 have v1:=Ll a1 0
 have v2:=Ll b1 0
 have n0:=EQ a1 (by omega)
 have o0:=Ot (t.kid 0).v
 have o1:=Ot t.v
 have d0:=Hv 22 t.v
 have d1:=Hv ((t.kid 0).kid 0).n ((t.kid 0).kid 0).v
 have d2:=Hv ((t.kid 1).kid 0).n ((t.kid 1).kid 0).v
 have hz:(nmE []).length=2:=by decide+kernel
 have z0:([]:List UInt8).length=0:=rfl
 obtain⟨c,n,k,b,ks⟩:=t
 generalize he:(Tr.mk c n k b ks).enc.length=e at*
 by_cases hn:n≤8
 ·rcases(by omega:n=0∨n=1∨n=2∨n=3∨n=4∨n=5∨n=6∨n=7∨n=8) with rfl|rfl|rfl|rfl|rfl|rfl|rfl|rfl|rfl
  case inr.inr.inr.inr.inr.inl=>
   rw[show A1 (.mk c 5 k b ks)=if isT ((Tr.mk c 5 k b ks).kid 0) 2 0 true then⟨5,[],[],[],[],Mk (((Tr.mk c 5 k b ks).kid 0).kid 0),Ml (((Tr.mk c 5 k b ks).kid 0).kid 0),Mk (((Tr.mk c 5 k b ks).kid 1).kid 0),Ml (((Tr.mk c 5 k b ks).kid 1).kid 0)⟩ else⟨5,[],[],[],[],0,[],Mk (((Tr.mk c 5 k b ks).kid 0).kid 0),Ml (((Tr.mk c 5 k b ks).kid 0).kid 0)⟩ from rfl]
   split
   ·exact⟨Nat.le_trans (Nat.le_of_eq z0) (by omega),Nat.le_trans (Nat.le_of_eq z0) (by omega),Nat.le_trans (Nat.le_of_eq z0) (by omega),Nat.le_trans (Nat.le_of_eq hz) (by omega),Nat.le_trans d1 (by omega),Nat.le_trans d2 (by omega)⟩
   ·exact⟨Nat.le_trans (Nat.le_of_eq z0) (by omega),Nat.le_trans (Nat.le_of_eq z0) (by omega),Nat.le_trans (Nat.le_of_eq z0) (by omega),Nat.le_trans (Nat.le_of_eq hz) (by omega),Nat.le_trans (Nat.le_of_eq z0) (by omega),Nat.le_trans d1 (by omega)⟩
  all_goals(refine⟨?_,?_,?_,?_,?_,?_⟩<;>first|exact Nat.le_trans o0 (by omega)|exact Nat.le_trans o1 (by omega)|exact Nat.le_trans d0 (by omega)|exact Nat.le_trans n0 (by omega)|exact Nat.le_trans (Nat.le_of_eq hz) (by omega)|exact Nat.le_trans (Nat.le_of_eq z0) (by omega)|(show(Tr.encs _).length≤_;omega)|(show b.length≤_;simp only[Tr.v] at p0;omega))
 ·obtain⟨m,rfl⟩:∃m,n=m+9:=⟨n-9,by omega⟩
  refine⟨?_,?_,?_,?_,?_,?_⟩<;>first|exact Nat.le_trans (Nat.le_of_eq hz) (by omega)|exact Nat.le_trans (Nat.le_of_eq z0) (by omega)
theorem vL {t:Tr} (h:t.ok) (hl:t.enc.length≤3006):(gnE (A1 t)).length≤400*t.enc.length:=by
 obtain⟨q1,q2,q3,q4,q5,q6⟩:=vK h hl
 have hc:=cE (jS h hl) (zZ h hl)
 have he:=t.enc_two
 have:=Ak 2 (A1 t).k.toNat (C2 (A1 t).k) ((Dh (A1 t)).getD []) (by omega)
 unfold gnE;omega
theorem Cm (c n:Nat) (k:Bool) (l:List UInt8):l.length+2≤(Ae c n k l).length:=by
 have:=Wj l.length
 unfold Ae;rw[D2];omega
theorem O1 {α:Type} (f:α→List UInt8) (k:Nat):∀{l:List α},(∀x∈l,k≤(f x).length)→k*l.length≤(l.map f).flatten.length
 |[],_=>by simp
 |x::r,h=>by
  have h1:=h x (by simp)
  have h2:=O1 f k (l:=r) fun y hy=>h y (by simp[hy])
  rw[List.map_cons,List.flatten_cons,List.length_append,List.length_cons,Nat.mul_add];omega
theorem Wk {a:Att} (h:H6 a=true):a.sm∧(atE a).length≤212+a.val.length:=by
 unfold H6 at h
 simp only[Bool.and_eq_true,decide_eq_true_eq] at h
 obtain⟨h1,h2⟩:=h
 have k1:=Xy a.oid
 have k2:=Ak 0 6 false (A0 a.oid) (by omega)
 have k3:=Ak 0 16 true (Ae 0 6 false (A0 a.oid)++a.val) (by rw[List.length_append];omega)
 rw[List.length_append] at k3
 exact⟨⟨by omega,by omega⟩,by unfold atE;omega⟩
theorem Uk:∀{r:List Att},r.all H6=true→(r.map atE).flatten.length≤212*r.length+Kh r
 |[],_=>by simp[Kh]
 |a::r,h=>by
  rw[List.all_cons,Bool.and_eq_true] at h
  have h1:=(Wk h.1).2
  have h2:=Uk h.2
  unfold Kh at h2⊢
  rw[List.map_cons,List.flatten_cons,List.length_append,List.map_cons,List.sum_cons,List.length_cons];omega
theorem Ul {r:List Att} (h:Ey r=true):rdnZ r∧(By r).length≤1702+Kh r:=by
 obtain⟨h1,h2,h3⟩:=J1 h
 have h4:=Uk h2
 have h5:=Ak 0 17 true (r.map atE).flatten (by omega)
 exact⟨⟨by omega,fun a ha=>(Wk (List.all_eq_true.1 h2 a ha)).1,by omega⟩,by unfold By;omega⟩
theorem Qx:∀{n:List (List Att)},n.all Ey=true→(n.map By).flatten.length≤1702*n.length+I6 n
 |[],_=>by simp[I6]
 |a::r,h=>by
  rw[List.all_cons,Bool.and_eq_true] at h
  have h1:=(Ul h.1).2
  have h2:=Qx h.2
  unfold I6 at h2⊢
  rw[List.map_cons,List.flatten_cons,List.length_append,List.map_cons,List.sum_cons,List.length_cons];omega
theorem cF {n:List (List Att)} (h:Fx n=true):nmZ n∧(nmE n).length≤19026:=by
 obtain⟨h1,h2,h3⟩:=Im h
 have h4:=Qx h2
 have h5:=Ak 0 16 true (n.map By).flatten (by omega)
 exact⟨⟨by omega,fun r hr=>(Ul (List.all_eq_true.1 h2 r hr)).1,by omega⟩,by unfold nmE;omega⟩
theorem Rv {g:Gn} (h:H7 g=true):g.mid∧(gnE g).length≤23392:=by
 obtain⟨h1,h2,h3,h4,h5,h6⟩:=Ky h
 obtain⟨n1,n2⟩:=cF h4
 have hz:g.zz:=⟨by omega,by omega,by omega,n1,by omega,by omega⟩
 have hc:=cE hz (by omega)
 have:=Ak 2 g.k.toNat (C2 g.k) ((Dh g).getD []) (by omega)
 exact⟨⟨hz.s,by omega⟩,by unfold gnE;omega⟩
theorem cG {l:List Gn} (h:Er l=true):l.length≤8∧gnsM l∧(l.map gnE).flatten.length≤187136:=by
 obtain⟨h1,h2,-⟩:=Mq h
 have h3:∀l:List Gn,l.all H7=true→(l.map gnE).flatten.length≤23392*l.length:=by
  intro l
  induction l with
  |nil=>simp
  |cons a r ih=>
   intro h
   rw[List.all_cons,Bool.and_eq_true] at h
   have h1:=(Rv h.1).2
   have h2:=ih h.2
   rw[List.map_cons,List.flatten_cons,List.length_append,List.length_cons];omega
 have h4:=h3 l h2
 exact⟨h1,⟨by omega,fun g hg=>(Rv (List.all_eq_true.1 h2 g hg)).1,by omega⟩,by omega⟩
theorem GC {a:Att} (h:atV a=true) (hl:(atE a).length≤400000):a.sm∧4≤(atE a).length:=by
 obtain⟨h1,-⟩:=Rq h
 have h3:=Ts h1
 have h4:=Cm 0 6 false (A0 a.oid)
 have h5:=Cm 0 16 true (Ae 0 6 false (A0 a.oid)++a.val)
 rw[List.length_append] at h5
 have e:(atE a).length=(Ae 0 16 true (Ae 0 6 false (A0 a.oid)++a.val)).length:=rfl
 exact⟨⟨by omega,by omega⟩,by omega⟩
theorem ES {r:List Att} (h:Ez r=true) (hl:(By r).length≤400000):rdnZ r∧4≤(By r).length:=by
 obtain⟨h0,h1,-⟩:=Rr h
 have h2:=Cm 0 17 true (r.map atE).flatten
 have e:(By r).length=(Ae 0 17 true (r.map atE).flatten).length:=rfl
 have h3:∀a∈r,a.sm∧4≤(atE a).length:=fun a ha=>by
  have:=Gu (List.mem_map_of_mem (f:=atE) ha)
  exact GC (List.all_eq_true.1 h1 a ha) (by omega)
 have h4:=O1 atE 4 fun a ha=>(h3 a ha).2
 have h5:1≤r.length:=by cases r with|nil=>exact absurd rfl h0|cons _ _=>simp
 exact⟨⟨by omega,fun a ha=>(h3 a ha).1,by omega⟩,by omega⟩
theorem GD {n:List (List Att)} (h:nmV n=true) (hl:(nmE n).length≤400000):nmZ n:=by
 have h2:=Cm 0 16 true (n.map By).flatten
 have e:(nmE n).length=(Ae 0 16 true (n.map By).flatten).length:=rfl
 have h3:∀r∈n,rdnZ r∧4≤(By r).length:=fun r hr=>by
  have:=Gu (List.mem_map_of_mem (f:=By) hr)
  exact ES (List.all_eq_true.1 h r hr) (by omega)
 have h4:=O1 By 4 fun r hr=>(h3 r hr).2
 exact⟨by omega,fun r hr=>(h3 r hr).1,by omega⟩
theorem vM {k:Int} {l:List UInt8} (h:Ah k l=true):l.length≤4*(chS k l).length:=by
 have:=Hv k (chS k l)
 rwa[(P1 h).2.1] at this
theorem vN {k:Int} {l:List UInt8} (h:Ah k l=true):l.length≤4*(txE k l).length:=by
 have h1:=vM h
 have h2:=Cm 0 k.toNat false (chS k l)
 unfold txE;omega
theorem AD {g:Gn} (h:gnW g=true) (hl:(gnE g).length≤400000):g.mid:=by
 obtain⟨h1,-,⟨c,h3⟩,h4⟩:=(Mb g).1 h
 have hc:c.length≤400000:=by
  have:=Cm 2 g.k.toNat (C2 g.k) ((Dh g).getD [])
  have e:(gnE g).length=(Ae 2 g.k.toNat (C2 g.k) ((Dh g).getD [])).length:=rfl
  rw[h3] at this e
  have e2:((some c).getD [])=c:=rfl
  rw[e2] at this e;omega
 refine⟨?_,by rw[h3];show c.length≤_;omega⟩
 obtain⟨m,hm,hk⟩:=Nj h3
 obtain⟨k,oid,tx,by',nm,ak,av,pk,pv⟩:=g
 rw[C5] at h1
 obtain⟨a1,a2,a3,a4,a5⟩:=h1
 simp only at hk a1 a2 a3 a4 a5
 subst hk
 unfold Dh at h3
 simp only at h3
 have l0:([]:List UInt8).length=0:=rfl
 rcases(by omega:m=0∨m=1∨m=2∨m=3∨m=4∨m=5∨m=6∨m=7∨m=8) with rfl|rfl|rfl|rfl|rfl|rfl|rfl|rfl|rfl
 ·obtain rfl:tx=[]:=by simpa using a2
  obtain rfl:nm=[]:=by simpa using a4
  obtain⟨⟨rfl,rfl⟩,rfl,rfl⟩:(ak=0∧av=[])∧pk=0∧pv=[]:=by simpa using a5
  rw[if_pos (by rfl)] at h3
  by_cases ho:Dy oid=true
  ·rw[if_pos ho] at h3
   obtain rfl:=Option.some.inj h3
   have:=Ts ho
   have:=Cm 0 6 false (A0 oid)
   have:=Cm 2 0 true by'
   rw[List.length_append] at hc
   exact⟨by show oid.length≤_;omega,by simp,by show by'.length≤_;omega,Dp,by simp,by simp⟩
  ·rw[if_neg ho] at h3;cases h3
 case inr.inr.inr.inl=>
  obtain rfl:oid=[]:=by simpa using a1
  obtain rfl:tx=[]:=by simpa using a2
  obtain rfl:nm=[]:=by simpa using a4
  obtain⟨⟨rfl,rfl⟩,rfl,rfl⟩:(ak=0∧av=[])∧pk=0∧pv=[]:=by simpa using a5
  rw[if_neg (by decide),if_neg (by decide),if_pos (by decide)] at h3
  obtain rfl:=Option.some.inj h3
  exact⟨by simp,by simp,by show by'.length≤_;omega,Dp,by simp,by simp⟩
 case inr.inr.inr.inr.inl=>
  obtain rfl:oid=[]:=by simpa using a1
  obtain rfl:tx=[]:=by simpa using a2
  obtain rfl:by'=[]:=by simpa using a3
  obtain⟨⟨rfl,rfl⟩,rfl,rfl⟩:(ak=0∧av=[])∧pk=0∧pv=[]:=by simpa using a5
  rw[if_neg (by decide),if_neg (by decide),if_neg (by decide),if_pos (by rfl)] at h3
  by_cases ho:nmV nm=true
  ·rw[if_pos ho] at h3
   obtain rfl:=Option.some.inj h3
   exact⟨by simp,by simp,by simp,GD ho hc,by simp,by simp⟩
  ·rw[if_neg ho] at h3;cases h3
 case inr.inr.inr.inr.inr.inl=>
  obtain rfl:oid=[]:=by simpa using a1
  obtain rfl:tx=[]:=by simpa using a2
  obtain rfl:by'=[]:=by simpa using a3
  obtain rfl:nm=[]:=by simpa using a4
  rw[if_neg (by decide),if_neg (by decide),if_neg (by decide),if_neg (by decide),if_pos (by rfl)] at h3
  unfold Li at h3
  simp only at h3
  by_cases hh:((zT ak av||Ah ak av)&&Ah pk pv)=true
  ·rw[if_pos hh] at h3
   obtain rfl:=Option.some.inj h3
   rw[Bool.and_eq_true,Bool.or_eq_true] at hh
   have k1:=vN hh.2
   have k2:=Cm 2 1 true (txE pk pv)
   rw[List.length_append] at hc
   refine⟨by simp,by simp,by simp,Dp,?_,by show pv.length≤_;omega⟩
   show av.length≤_
   by_cases hz:zT ak av=true
   ·rw[(P2.1 hz).2];simp
   ·rw[if_neg hz] at hc
    have k3:=vN (hh.1.resolve_left hz)
    have k4:=Cm 2 0 true (txE ak av)
    omega
  ·rw[if_neg hh] at h3;cases h3
 case inr.inr.inr.inr.inr.inr.inr.inl=>
  obtain rfl:oid=[]:=by simpa using a1
  obtain rfl:tx=[]:=by simpa using a2
  obtain rfl:nm=[]:=by simpa using a4
  obtain⟨⟨rfl,rfl⟩,rfl,rfl⟩:(ak=0∧av=[])∧pk=0∧pv=[]:=by simpa using a5
  rw[if_neg (by decide),if_neg (by decide),if_pos (by decide)] at h3
  obtain rfl:=Option.some.inj h3
  exact⟨by simp,by simp,by show by'.length≤_;omega,Dp,by simp,by simp⟩
 case inr.inr.inr.inr.inr.inr.inr.inr=>
  obtain rfl:tx=[]:=by simpa using a2
  obtain rfl:by'=[]:=by simpa using a3
  obtain rfl:nm=[]:=by simpa using a4
  obtain⟨⟨rfl,rfl⟩,rfl,rfl⟩:(ak=0∧av=[])∧pk=0∧pv=[]:=by simpa using a5
  rw[if_neg (by decide),if_neg (by decide),if_neg (by decide),if_neg (by decide),if_neg (by decide),if_pos (by rfl)] at h3
  by_cases ho:Dy oid=true
  ·rw[if_pos ho] at h3
   obtain rfl:=Option.some.inj h3
   have:=Ts ho
   exact⟨by show oid.length≤_;omega,by simp,by simp,Dp,by simp,by simp⟩
  ·rw[if_neg ho] at h3;cases h3
 all_goals
  obtain rfl:oid=[]:=by simpa using a1
  obtain rfl:by'=[]:=by simpa using a3
  obtain rfl:nm=[]:=by simpa using a4
  obtain⟨⟨rfl,rfl⟩,rfl,rfl⟩:(ak=0∧av=[])∧pk=0∧pv=[]:=by simpa using a5
  rw[if_neg (by decide),if_pos (by decide)] at h3
  by_cases ho:Ah 22 tx=true
  ·rw[if_pos ho] at h3
   obtain rfl:=Option.some.inj h3
   have:=vM ho
   exact⟨by simp,by show tx.length≤_;omega,by simp,Dp,by simp,by simp⟩
  ·rw[if_neg ho] at h3;cases h3
theorem cH {l:List Gn} (h:l.all gnW=true) (hl:(l.map gnE).flatten.length≤400000):gnsM l:=by
 have hm:∀g∈l,g.mid:=fun g hg=>by
  have:=Gu (List.mem_map_of_mem (f:=gnE) hg)
  exact AD (List.all_eq_true.1 h g hg) (by omega)
 have h4:=O1 gnE 2 (l:=l) fun g _=>by
  have:=Cm 2 g.k.toNat (C2 g.k) ((Dh g).getD [])
  unfold gnE;omega
 exact⟨by omega,hm,by omega⟩
def gG (g:Gn):List D:=[iD g.k,sD g.oid,sD g.tx,Ac true g.by',Qu g.nm,iD g.ak,sD g.av,iD g.pk,sD g.pv]
def AE (l:List Gn):D:=G3 true 9 gG l
theorem Rw (g:Gn):D.uns (gG g)=gnC g:=by simp only[gG,gnC,D.uns,Ag,Bq,D.un]
theorem Rx (l:List Gn):D.uns (l.flatMap gG)=l.flatMap gnC:=by
 induction l with
 |nil=>rfl
 |cons g r ih=>rw[List.flatMap_cons,D.uns_app,Rw,ih,List.flatMap_cons]
theorem J9 (l:List Gn):(AE l).un=Fw l:=by
 show D.sl false l.length 9 (D.uns (l.flatMap gG))=_
 rw[Rx];rfl
theorem jT {l:List Gn} (h:∀g∈l,g.mid):Ym l=Jl l:=by
 unfold Ym Jl
 congr 1
 induction l with
 |nil=>rfl
 |cons a r ih=>rw[List.all_cons,List.all_cons,DL (h a (by simp)),ih fun g hg=>h g (by simp[hg])]
theorem vO {l:List Gn}:Jl l=true↔l≠[]∧l.all gnW=true:=by
 unfold Jl
 cases l<;>simp
theorem gH (l:List Gn) (h:gnsM l):Aa Tryz.prog 29 [.d (Fw l)] (fun r=>r=P0 (Jl l) (Q2 l)):=by
 have hM:=Qv l h
 rwa[jT h.m] at hM
theorem gI (l:List Gn) (h:gnsM l):Aa Tryz.prog 35 [.d (Fw l)] (fun r=>r=bv (Jl l)):=by
 have hM:=bQ l h
 rwa[jT h.m] at hM
theorem ET {g:Gn} (h:gnW g=true) (hs:g.mid):∃t:Tv,t.ok∧gnE g=t.enc:=by
 obtain⟨-,-,⟨c,h3⟩,-⟩:=(Mb g).1 h
 obtain⟨n,hn,hk⟩:=Nj h3
 exact⟨⟨2,g.k.toNat,C2 g.k,(Dh g).getD []⟩,⟨by show(2:Nat)≤3;omega,by show g.k.toNat≤30;omega,by have:=hs.c;show((Dh g).getD []).length≤_;omega⟩,rfl⟩
theorem AF {l:List Gn} (h:l.all gnW=true) (hs:gnsM l) (c n:Nat) (hc:c≤3) (hn:n≤30):∃ks,okT 21 (Ae c n true (l.map gnE).flatten) (.mk c n true [] ks)∧ks.map A1=l:=by
 have hm:∀p∈l.map gnE,One 20 p∧p.length≤2147483647:=fun p hp=>by
  obtain⟨g,hg,rfl⟩:=List.mem_map.1 hp
  obtain⟨t,h1,-⟩:=uZ (List.all_eq_true.1 h g hg) (hs.m g hg)
  have:=zC (hs.m g hg)
  exact⟨h1.1,by omega⟩
 have:=hs.e
 obtain⟨c1,c2⟩:=Ma (d:=20) (c:=c) (n:=n) (l.map gnE) hc hn hm (by omega)
 refine⟨_,⟨c1,c2⟩,?_⟩
 rw[List.map_map,List.map_map]
 conv=>rhs;rw[←List.map_id l]
 exact List.map_congr_left fun g hg=>by
  obtain⟨t,h1,h2,-⟩:=uZ (List.all_eq_true.1 h g hg) (hs.m g hg)
  show A1 (trD 20 (gnE g))=g
  rw[h1.2];exact h2
def gpS:List (List UInt8)→Option (List Gn)
 |[]=>some []
 |p::r=>match Ki p with
  |none=>none
  |some g=>(gpS r).map (g:: ·)
def gpL (b:List UInt8):List El→Option (List Gn)×Nat×Nat
 |[]=>(some [],0,0)
 |x::r=>match Ki (elO b x) with
  |none=>(none,(T9 (elO b x)).1,x.at'+(T9 (elO b x)).2)
  |some g=>match gpL b r with
   |(some gs,_)=>(some (g::gs),0,0)
   |(none,p)=>(none,p)
def Um (ms:List Gn):Option (List Gn)×Nat×Nat→Option (List Gn)×Nat×Nat
 |(some r,_)=>(some (ms++r),0,0)
 |(none,p)=>(none,p)
theorem Un (b:List UInt8):∀l:List El,(gpL b l).1.isSome=true→(gpL b l).2=(0,0)
 |[],_=>rfl
 |x::r,h=>by
  rw[gpL] at h⊢
  cases hv:Ki (elO b x) with
  |none=>rw[hv] at h;cases h
  |some m=>
   rw[hv] at h
   cases hp:gpL b r with
   |mk o p=>rw[hp] at h;cases o with
    |none=>cases h
    |some ms=>rfl
theorem oK (b:List UInt8) (l:List El):Um [] (gpL b l)=gpL b l:=by
 have h:=Un b l
 cases hp:gpL b l with
 |mk o p=>
  rw[hp] at h
  cases o with
  |none=>rfl
  |some ms=>have:=h rfl;simp only at this;subst this;rfl
theorem gJ {b:List UInt8} {x:El} {r:List El} {m:Gn} (ms:List Gn) (hv:Ki (elO b x)=some m):Um ms (gpL b (x::r))=Um (ms++[m]) (gpL b r):=by
 rw[gpL,hv]
 cases hp:gpL b r with
 |mk o p=>cases o with
  |none=>rfl
  |some l=>simp[Um]
theorem Yu (b:List UInt8):∀l:List El,(gpL b l).1=gpS (l.map (elO b))
 |[]=>rfl
 |x::r=>by
  have ih:=Yu b r
  rw[gpL,List.map_cons,gpS]
  cases hv:Ki (elO b x) with
  |none=>rfl
  |some m=>
   simp only
   rw[←ih]
   cases hp:gpL b r with
   |mk o p=>cases o<;>rfl
theorem jU {b:List UInt8}:∀{l:List El},(∀x∈l,x.at'≤x.stop∧x.stop≤b.length)→(gpL b l).1=none→(gpL b l).2.1≠0∧(gpL b l).2.2≤b.length
 |[],_,h=>by cases h
 |x::r,hx,h=>by
  have ih:=jU (b:=b) (l:=r) fun y hy=>hx y (by simp[hy])
  rw[gpL] at h⊢
  cases hv:Ki (elO b x) with
  |none=>
   obtain⟨e1,e2⟩:=Yl (elO b x)
   have:=T5 b x
   obtain⟨x1,x2⟩:=hx x (by simp)
   exact⟨e1,by show x.at'+_≤_;omega⟩
  |some m=>
   rw[hv] at h
   cases hp:gpL b r with
   |mk o p=>
    rw[hp] at h ih
    cases o with
    |none=>exact ih rfl
    |some ms=>cases h
theorem jV:∀{v:List Gn},v.all gnW=true→(∀m∈v,m.mid)→gpS (v.map gnE)=some v
 |[],_,_=>rfl
 |m::r,h,hs=>by
  rw[List.all_cons,Bool.and_eq_true] at h
  rw[List.map_cons,gpS,bV h.1 (hs m (by simp)),jV h.2 fun k hk=>hs k (by simp[hk])];rfl
theorem jW:∀{ps:List (List UInt8)} {v:List Gn},(∀p∈ps,p.length≤800000)→gpS ps=some v→v.all gnW=true∧ps=v.map gnE
 |[],v,_,h=>by
  rw[gpS] at h
  obtain rfl:=Option.some.inj h
  exact⟨rfl,rfl⟩
 |p::r,v,hl,h=>by
  rw[gpS] at h
  cases hv:Ki p with
  |none=>rw[hv] at h;cases h
  |some m=>
   rw[hv] at h
   cases hr:gpS r with
   |none=>rw[hr] at h;cases h
   |some w=>
    rw[hr] at h
    obtain rfl:=Option.some.inj h
    obtain⟨k1,k2⟩:=uD hv (hl p (by simp))
    obtain⟨k3,k4⟩:=jW (fun q hq=>hl q (by simp[hq])) hr
    exact⟨by rw[List.all_cons,k1,k3];rfl,by rw[List.map_cons,←k2,←k4]⟩
def Yv (b:List UInt8):Option (List Gn)×Nat×Nat:=
 if(Aw b 0 16).code≠0 then(none,(Aw b 0 16).code,(Aw b 0 16).off) else if(Aw b 0 16).l=[] then(none,1,b.length) else gpL b (Aw b 0 16).l
def GR:Option (List Gn)×Nat×Nat→AV
 |(some gs,_)=> .tup [.d (AE gs),erA 0 0]
 |(none,c,p)=> .tup [Av,erA c p]
theorem jX (b:List UInt8) (hb:b.length≤800000):(∃v:List Gn,v≠[]∧v.all gnW=true∧b=Q2 v∧Yv b=(some v,0,0))∨(∃c o:Nat,c≠0∧o≤b.length∧Yv b=(none,c,o)):=by
 unfold Yv
 by_cases h1:(Aw b 0 16).code≠0
 ·rw[if_pos h1]
  exact .inr ⟨_,_,h1,Ht b 0 16,rfl⟩
 rw[if_neg h1]
 have h1':=Decidable.not_not.1 h1
 obtain⟨ts,t1,t2,-,-,-⟩:=Jg h1'
 have hlt:(Ca ts).length≤800000:=by
  have:=congrArg List.length t2
  unfold Ae at this
  rw[D2] at this;omega
 obtain⟨q,e1,e2⟩:=Fl (c:=0) (n:=16) ts (by omega) (by omega) t1 (by omega)
 rw[←t2] at e1 e2
 rw[e1]
 by_cases h2:els q ts=[]
 ·rw[if_pos h2];exact .inr ⟨1,b.length,by omega,Nat.le_refl _,rfl⟩
 rw[if_neg h2]
 have hf:=Yu b (els q ts)
 rw[e2] at hf
 have hoff:=jU (b:=b) (l:=els q ts) fun x hx=>by
  have:=Du (b:=b) (c:=0) (n:=16) (x:=x) (by rw[e1];exact hx)
  omega
 have hz:=Un b (els q ts)
 show(∃v:List Gn,v≠[]∧v.all gnW=true∧b=Q2 v∧gpL b (els q ts)=(some v,0,0))∨(∃c o:Nat,c≠0∧o≤b.length∧gpL b (els q ts)=(none,c,o))
 cases hp:gpL b (els q ts) with
 |mk o p=>
  rw[hp] at hf hoff hz
  obtain⟨c,p⟩:=p
  simp only at hf hoff hz
  cases o with
  |none=>exact .inr ⟨c,p,(hoff rfl).1,(hoff rfl).2,rfl⟩
  |some v=>
   obtain⟨k1,k2⟩:=jW (fun p hp=>by
    have:=Gu hp
    rw[←Ek] at this;omega) hf.symm
   have hz:=hz rfl
   simp only[Prod.mk.injEq] at hz
   obtain⟨rfl,rfl⟩:=hz
   refine .inl ⟨v,?_,k1,?_,rfl⟩
   ·rintro rfl
    cases ts with
    |nil=>exact h2 rfl
    |cons t r=>simp at k2
   ·rw[t2]
    unfold Q2
    rw[Ek,k2]
theorem EU {v:List Gn} (h:v.all gnW=true) (hs:gnsM v):∃ts:List Tv,(∀t∈ts,t.ok)∧v.map gnE=ts.map Tv.enc:=
 Ro fun p hp=>by
  obtain⟨m,hm,rfl⟩:=List.mem_map.1 hp
  exact ET (List.all_eq_true.1 h m hm) (hs.m m hm)
theorem AG {v:List Gn} (h0:v≠[]) (h:v.all gnW=true) (hs:gnsM v):Yv (Q2 v)=(some v,0,0):=by
 obtain⟨ts,t1,t2⟩:=EU h hs
 have hfl:(v.map gnE).flatten=Ca ts:=by rw[t2,Ek]
 have:=hs.e
 obtain⟨q,e1,e2⟩:=Fl (c:=0) (n:=16) ts (by omega) (by omega) t1 (by rw[←hfl];omega)
 have hf:=Yu (Ae 0 16 true (Ca ts)) (els q ts)
 rw[e2,←t2,jV h hs.m] at hf
 unfold Yv Q2
 rw[hfl,e1,if_neg (by simp),if_neg (by
  intro e
  have:=congrArg List.length e
  rw[Yc] at this
  have h3:=congrArg List.length t2
  rw[List.length_map,List.length_map] at h3
  exact h0 (List.eq_nil_of_length_eq_zero (by rw[h3];exact this)))]
 have hz:=Un (Ae 0 16 true (Ca ts)) (els q ts) (by rw[hf];rfl)
 exact Prod.ext hf hz
theorem O2 {p:Prop} (h:p:=by first|rfl|(simp only[AV.gives,AV.ren,AV.give,D.un,D.uns,Ag,Af,List.nil_append,List.append_nil,List.cons_append,Ai,Al,As,Aq,An,Ar,Ax,Ck,Bq,Ce,Bg,J9,Rw,Rx,Dw,Dx];first|done|rfl)):p:=h
theorem cI (b:List UInt8) (hb:b.length≤800000):Aa Tryz.prog 40 [.d (Ac false b)] (fun r=>r=GR (Yv b)):=by
 have hP:=I5 b 0 16 (by omega)
 have hin:=fun x=>Du (b:=b) (c:=0) (n:=16) (x:=x)
 have hcn:=Nh b 0 16
 unfold Yv
 generalize Aw b 0 16=R at hP hin hcn⊢
 by_cases h1:R.code≠0
 ·rw[if_pos h1]
  rw[lrA,if_pos h1] at hP
  have gc:((R.code:Int) !=0)=true:=by rw[bne_iff_ne];omega
  generalize R.code=c at hP gc
  generalize R.off=o at hP
  refine acQ 60 Tryz.func40 rfl rfl fun _ _ _=> ?_
  (repeat'((conv=>whnf);first|refine NBr.pos asQ ?_|refine NCall.eq hP O2 ?_|refine NFact.go ⟨by decide+kernel,by kernel_rfl⟩ ?_));(all_goals(conv=>whnf))
  all_goals exact NEnd.eq leQ
 rw[if_neg h1]
 rw[lrA,if_neg h1] at hP
 generalize R.l=l at hP hin hcn⊢
 by_cases h2:l=[]
 ·subst h2
  rw[if_pos rfl]
  refine acQ 60 Tryz.func40 rfl rfl fun _ _ _=> ?_
  (repeat'((conv=>whnf);first|refine NBr.yes ?_|refine NBr.no ?_|refine NCall.eq hP O2 ?_));(all_goals(conv=>whnf))
  all_goals exact NEnd.eq leQ
 rw[if_neg h2]
 have gl:((l.length:Int)==0)=false:=by rw[beq_eq_false_iff_ne];intro h;exact h2 (List.eq_nil_of_length_eq_zero (by omega))
 have hd0:gpL b l=Um [] (gpL b (l.drop 0)):=by rw[oK,List.drop_zero]
 generalize hQ:gpL b l=q at hd0⊢
 refine acQ 60 Tryz.func40 rfl rfl fun _ _ _=> ?_
 (repeat'((conv=>whnf);first|refine NBr.neg asQ ?_|refine NBr.no ?_|refine NCall.eq hP O2 ?_));(all_goals(conv=>whnf))
 refine NLoop.goA [.s 6 9 50] (fun z:Nat×List Gn=>z.1≤l.length∧z.2.length≤z.1∧q=Um z.2 (gpL b (l.drop z.1))) (fun z=>l.length-z.1) (fun z=>⟨[(0,.d (Ac false b)),(3,.ptr 3 0),(6,Ce 6 9 50 gG z.2),(26,.d (mN l)),(27,iv l.length),(28,iv z.1)],[(3,[iv 0,iv 0])],[(6,(z.2.length,9,50))]⟩) (0,[]) ⟨by simp,by simp,hd0⟩ leQ ?_
 rintro⟨i,ms⟩ ⟨hi,hm,he⟩
 simp only at hi hm he
 by_cases hik:i<l.length
 ·have gi:decide ((i:Int)<l.length)=true:=decide_eq_true (by omega)
  obtain⟨x,hg⟩:∃p,l[i]?=some p:=⟨_,List.getElem?_eq_getElem hik⟩
  obtain⟨x1,x2,x3⟩:=hin x (List.mem_of_getElem? hg)
  have hel:=Rs b x
  have hO:=Ub (elO b x) (by omega)
  obtain⟨hc0,hof⟩:=Yl (elO b x)
  rw[Px hg] at he
  cases hp:Ki (elO b x) with
  |none=>
   have bad:q=(none,(T9 (elO b x)).1,x.at'+(T9 (elO b x)).2):=by rw[he,gpL,hp];rfl
   rw[bad]
   rw[hp] at hO
   generalize T9 (elO b x)=e at hO hc0 hof
   obtain⟨c,o⟩:=e
   simp only at hc0 hof
   have hO:Aa Tryz.prog 55 [.d (Ac false (elO b x))] (fun r=>r= .tup [gnQ gz,erA c o]):=hO
   have gc:((c:Int) !=0)=true:=by rw[bne_iff_ne];omega
   unfold elO at hO
   (repeat'((conv=>whnf);first|refine NBr.pos asQ ?_|refine NIdx.tab (fun _=>rfl) hg ?_|refine NSl.slice (x.at') (x.stop) ?_|refine NCall.eq hO O2 ?_|(with_reducible refine NInt.i64 ?_)|refine NFact.go ⟨by decide+kernel,by kernel_rfl⟩ ?_));(all_goals(conv=>whnf))
   all_goals exact NEnd.eq leQ
  |some g=>
   rw[gJ ms hp] at he
   rw[hp] at hO
   have hO:Aa Tryz.prog 55 [.d (Ac false (elO b x))] (fun r=>r= .tup [gnQ g,erA 0 0]):=hO
   unfold elO at hO
   (repeat'((conv=>whnf);first|refine NBr.pos asQ ?_|refine NBr.no ?_|refine NIdx.tab (fun _=>rfl) hg ?_|refine NSl.slice (x.at') (x.stop) ?_|refine NCall.eq hO O2 ?_|refine NApp.one gG g ?_|(with_reducible refine NInt.i64 ?_)));(all_goals(conv=>whnf))
   refine⟨(i+1,ms++[g]),⟨by show i+1≤_;omega,by simp;omega,he⟩,by show l.length-(i+1)<l.length-i;omega,?_⟩
   exact leQ
 ·have gi:decide ((i:Int)<l.length)=false:=decide_eq_false (by omega)
  obtain rfl:i=l.length:=by omega
  rw[List.drop_length,gpL] at he
  have he':q=(some ms,0,0):=by rw[he];simp[Um]
  subst he'
  (repeat'((conv=>whnf);refine NBr.neg asQ ?_));(all_goals(conv=>whnf))
  all_goals exact NEnd.eq leQ
end Go.Proofs.YtgamacmidohpfaaGreatDoor
