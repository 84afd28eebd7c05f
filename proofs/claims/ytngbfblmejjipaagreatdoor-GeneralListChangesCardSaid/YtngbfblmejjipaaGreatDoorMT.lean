/- MT: the texts Rz R13P GenS GenW GenV Frz2, one behind the other. No condition but what each lemma says. -/
import Derived.Test.YtngbfblmejjipaaGreatDoorMS
import Derived.Test.YtngbfblmejjipaaGreatDoorMM
import Derived.Test.YtngbfblmejjipaaGreatDoorMI
import Derived.Test.YtngbfblmejjipaaGreatDoorMH
import Derived.Test.YtngbfblmejjipaaGreatDoorMC
set_option maxRecDepth 100000
set_option maxHeartbeats 16000000
namespace Go.Proofs.YtngbfblmejjipaaGreatDoor
open Go.RowKit
theorem H4 (k:Int) (c:List UInt8):(Bv k c).length≤4*c.length:=by
 unfold Bv
 split
 ·simp
 split
 ·unfold Ec
  split
  ·omega
  ·have:=H9 (Ag k).toNat c (c.length/(Ag k).toNat)
   have:=Nat.div_le_self c.length (Ag k).toNat
   omega
 ·simp
theorem Uf {f:Tr→List UInt8} {C:Nat}:∀{l:List Tr},(∀k∈l,(f k).length≤C*k.enc.length)→(l.map f).flatten.length≤C*(Tr.encs l).length
 |[],_=>by simp
 |x::r,h=>by
  have h1:=h x (by simp)
  have h2:=Uf (f:=f) (C:=C) (l:=r) fun k hk=>h k (by simp[hk])
  rw[List.map_cons,List.flatten_cons,List.length_append,Tr.encs,List.length_append,Nat.mul_add];omega
theorem yO (t:Tr) (i:Nat):(Yp t i).length≤t.enc.length:=by
 unfold Yp
 split
 ·rename_i k hk
  have:=Tr.mem_le (List.mem_of_getElem? hk)
  have:=t.parts;omega
 ·simp
theorem Lr {t:Tr} (h:t.ok) (i:Nat):(t.kid i).v.length≤t.enc.length+2:=by
 have:=(Ll h i).2;have:=(t.kid i).parts;omega
theorem M2 {t:Tr} (h:t.ok):∀k∈t.ks,k.ok∧k.enc.length≤t.enc.length:=fun k hk=>
 ⟨Tr.oks_mem (Tr.ok_ks h) k hk,by have:=Tr.mem_le hk;have:=t.parts;omega⟩
theorem uD {t:Tr} (h:t.ok) (hl:t.enc.length≤10000):insOk t:=
 ⟨by have:=Tr.encs_two t.ks;have:=t.parts;omega,fun k hk=>(M2 h k hk).1,by have:=t.parts;omega⟩
theorem EB {t:Tr} (h:t.ok) (hl:t.enc.length≤10000):t.at:=
 ⟨by have:=Lr h 0;omega,fun k hk=>by obtain⟨a,b⟩:=M2 h k (List.mem_of_getElem? hk);exact⟨a,by omega⟩⟩
theorem EC {t:Tr} (h:t.ok) (hl:t.enc.length≤10000):t.nm:=
 ⟨by have:=Tr.encs_two t.ks;have:=t.parts;omega,fun k hk=>by
   obtain⟨a,b⟩:=M2 h k hk
   refine⟨by have:=Tr.encs_two k.ks;have:=k.parts;omega,fun j hj=> ?_⟩
   obtain⟨c,d⟩:=M2 a j hj
   exact EB c (by omega)⟩
theorem zI {t:Tr} (h:t.ok) (hl:t.enc.length≤9000):t.gn:=by
 obtain⟨a1,a2⟩:=Ll h 0
 obtain⟨b1,b2⟩:=Ll h 1
 exact⟨by have:=t.parts;omega,by have:=Lr h 0;omega,uD h (by omega),uD b1 (by omega),EC a1 (by omega),by have:=Lr a1 0;omega,by have:=Lr b1 0;omega⟩
theorem uE {t:Tr} (h:t.ok) (hl:t.enc.length≤3010):(Pb t).sm∧(atE (Pb t)).length≤60*t.enc.length:=by
 have h1:=O4 (t.kid 0).v
 have h2:=Lr h 0
 have h3:=yO t 1
 have h4:=t.enc_two
 have h5:=Xz (odT (t.kid 0).v)
 have h6:=Ak 0 6 false (Ar (odT (t.kid 0).v)) (by omega)
 have h7:=Ak 0 16 true (Ae 0 6 false (Ar (odT (t.kid 0).v))++Yp t 1) (by rw[List.length_append];omega)
 rw[List.length_append] at h7
 refine⟨⟨by show(odT _).length≤_;omega,by show(Yp t 1).length≤_;omega⟩,?_⟩
 show(Ae 0 16 true (Ae 0 6 false (Ar (odT (t.kid 0).v))++Yp t 1)).length≤_
 omega
theorem Yq {t:Tr} (h:t.ok) (hl:t.enc.length≤3010):rdnZ (Ga t)∧(Br (Ga t)).length≤63*t.enc.length:=by
 have hp:=t.parts
 have hc:=Tr.encs_two t.ks
 have he:=t.enc_two
 have hk:∀k∈t.ks,(atE (Pb k)).length≤60*k.enc.length:=fun k hk=>by
  obtain⟨a,b⟩:=M2 h k hk
  exact(uE a (by omega)).2
 have hm:=Uf (f:=fun k=>atE (Pb k)) hk
 have hf:((Ga t).map atE).flatten.length≤60*(Tr.encs t.ks).length:=by
  unfold Ga;rw[List.map_map];exact hm
 have h7:=Ak 0 17 true ((Ga t).map atE).flatten (by omega)
 refine⟨⟨by unfold Ga;rw[List.length_map];omega,fun a ha=> ?_,by omega⟩,by unfold Br;omega⟩
 obtain⟨k,hkm,rfl⟩:=List.mem_map.1 ha
 obtain⟨x,y⟩:=M2 h k hkm
 exact(uE x (by omega)).1
theorem uF {t:Tr} (h:t.ok) (hl:t.enc.length≤3010):nmZ (Lq t)∧(nmE (Lq t)).length≤200000:=by
 have hp:=t.parts
 have hc:=Tr.encs_two t.ks
 have hk:∀k∈t.ks,(Br (Ga k)).length≤63*k.enc.length:=fun k hk=>by
  obtain⟨a,b⟩:=M2 h k hk
  exact(Yq a (by omega)).2
 have hm:=Uf (f:=fun k=>Br (Ga k)) hk
 have hf:((Lq t).map Br).flatten.length≤63*(Tr.encs t.ks).length:=by
  unfold Lq;rw[List.map_map];exact hm
 have h7:=Ak 0 16 true ((Lq t).map Br).flatten (by omega)
 refine⟨⟨by unfold Lq;rw[List.length_map];omega,fun a ha=> ?_,by omega⟩,by unfold nmE;omega⟩
 obtain⟨k,hkm,rfl⟩:=List.mem_map.1 ha
 obtain⟨x,y⟩:=M2 h k hkm
 exact(Yq x (by omega)).1
theorem CV {t:Tr} (h:t.ok) (hl:t.enc.length≤3010):(nmE (Lq t)).length≤63*t.enc.length+6:=by
 have hp:=t.parts
 have hm:=Uf (f:=fun k=>Br (Ga k)) (C:=63) (l:=t.ks) fun k hk=>by
  obtain⟨a,b⟩:=M2 h k hk
  exact(Yq a (by omega)).2
 have hf:((Lq t).map Br).flatten.length≤63*(Tr.encs t.ks).length:=by
  unfold Lq;rw[List.map_map];exact hm
 have h7:=Ak 0 16 true ((Lq t).map Br).flatten (by omega)
 unfold nmE;omega
theorem Dc:nmZ []:=⟨by simp,by simp,by simp⟩
theorem Rs {t:Tr} (h:t.ok) (hl:t.enc.length≤3006):(An t).zz:=by
 obtain⟨a1,a2⟩:=Ll h 0
 obtain⟨b1,b2⟩:=Ll h 1
 have p0:=t.parts
 have p1:=(t.kid 1).parts
 have v0:=Lr h 0
 have v1:=Lr a1 0
 have v2:=Lr b1 0
 have n0:=(uF a1 (by omega)).1
 have o0:=O4 (t.kid 0).v
 have o1:=O4 t.v
 have d0:=H4 22 t.v
 have d1:=H4 ((t.kid 0).kid 0).n ((t.kid 0).kid 0).v
 have d2:=H4 ((t.kid 1).kid 0).n ((t.kid 1).kid 0).v
 obtain⟨c,n,k,b,ks⟩:=t
 simp only[Tr.v] at p0 o1 d0
 by_cases hn:n≤8
 ·rcases(by omega:n=0∨n=1∨n=2∨n=3∨n=4∨n=5∨n=6∨n=7∨n=8) with rfl|rfl|rfl|rfl|rfl|rfl|rfl|rfl|rfl
  ·exact⟨by show(odT _).length≤_;omega,by simp[An,Tr.n],by show(Tr.encs _).length≤_;omega,Dc,by simp[An,Tr.n],by simp[An,Tr.n]⟩
  ·exact⟨by simp[An,Tr.n],by show(Bv 22 b).length≤_;omega,by simp[An,Tr.n],Dc,by simp[An,Tr.n],by simp[An,Tr.n]⟩
  ·exact⟨by simp[An,Tr.n],by show(Bv 22 b).length≤_;omega,by simp[An,Tr.n],Dc,by simp[An,Tr.n],by simp[An,Tr.n]⟩
  ·exact⟨by simp[An,Tr.n],by simp[An,Tr.n],by show(Tr.encs _).length≤_;omega,Dc,by simp[An,Tr.n],by simp[An,Tr.n]⟩
  ·exact⟨by simp[An,Tr.n],by simp[An,Tr.n],by simp[An,Tr.n],n0,by simp[An,Tr.n],by simp[An,Tr.n]⟩
  ·show Gn.zz (if _ then _ else _)
   split
   ·exact⟨by simp,by simp,by simp,Dc,Nat.le_trans d1 (by omega),Nat.le_trans d2 (by omega)⟩
   ·exact⟨by simp,by simp,by simp,Dc,by simp,Nat.le_trans d1 (by omega)⟩
  ·exact⟨by simp[An,Tr.n],by show(Bv 22 b).length≤_;omega,by simp[An,Tr.n],Dc,by simp[An,Tr.n],by simp[An,Tr.n]⟩
  ·exact⟨by simp[An,Tr.n],by simp[An,Tr.n],by show b.length≤_;omega,Dc,by simp[An,Tr.n],by simp[An,Tr.n]⟩
  ·exact⟨Nat.le_trans o1 (by omega),by simp[An,Tr.n],by simp[An,Tr.n],Dc,by simp[An,Tr.n],by simp[An,Tr.n]⟩
 ·obtain⟨m,rfl⟩:∃m,n=m+9:=⟨n-9,by omega⟩
  exact⟨by simp[An,Tr.n],by simp[An,Tr.n],by simp[An,Tr.n],Dc,by simp[An,Tr.n],by simp[An,Tr.n]⟩
theorem Ug {g:Gn} (h:g.zz) (hn:(nmE g.nm).length≤200000):((Cz g).getD []).length≤g.oid.length+g.by'.length+4*g.tx.length+(nmE g.nm).length+4*g.av.length+4*g.pv.length+60:=by
 have h1:=Xz g.oid
 have:=h.o;have:=h.t;have:=h.b;have:=h.a;have:=h.p
 unfold Cz
 split
 ·split
  ·have h6:=Ak 0 6 false (Ar g.oid) (by omega)
   have h7:=Ak 2 0 true g.by' (by omega)
   show(_++_:List UInt8).length≤_
   rw[List.length_append];omega
  ·simp
 split
 ·split
  ·rename_i hv
   have:=Fp hv
   show(chS 22 g.tx).length≤_
   omega
  ·simp
 split
 ·show g.by'.length≤_;omega
 split
 ·split
  ·show(nmE g.nm).length≤_;omega
  ·simp
 split
 ·unfold Lo
  split
  ·rename_i hv
   rw[Bool.and_eq_true] at hv
   have l2:=Fa hv.2 h.p
   have x2:=Ak 2 1 true (txE g.pk g.pv) (by omega)
   show((if _ then _ else _)++_:List UInt8).length≤_
   rw[List.length_append]
   split
   ·simp;omega
   ·rename_i hz
    have hz:zT g.ak g.av=false:=by simpa using hz
    rw[hz,Bool.false_or] at hv
    have l1:=Fa hv.1 h.a
    have x1:=Ak 2 0 true (txE g.ak g.av) (by omega)
    omega
  ·simp
 split
 ·split
  ·show(Ar g.oid).length≤_;omega
  ·simp
 ·simp
theorem uG {g:Gn} (h:g.zz) (hn:(nmE g.nm).length≤200000):((Cz g).getD []).length≤60000000:=by
 have:=Ug h hn
 have:=h.o;have:=h.t;have:=h.b;have:=h.a;have:=h.p;omega
theorem jK {t:Tr} (h:t.ok) (hl:t.enc.length≤3006):(nmE (An t).nm).length≤200000:=by
 obtain⟨a1,a2⟩:=Ll h 0
 have h0:=(uF a1 (by omega)).2
 have hz:(nmE []).length≤200000:=by decide+kernel
 obtain⟨c,n,k,b,ks⟩:=t
 by_cases hn:n≤8
 ·rcases(by omega:n=0∨n=1∨n=2∨n=3∨n=4∨n=5∨n=6∨n=7∨n=8) with rfl|rfl|rfl|rfl|rfl|rfl|rfl|rfl|rfl
  ·exact hz
  ·exact hz
  ·exact hz
  ·exact hz
  ·exact h0
  ·show(nmE (Gn.nm (if _ then _ else _))).length≤_
   split
   ·exact hz
   ·exact hz
  ·exact hz
  ·exact hz
  ·exact hz
 ·obtain⟨m,rfl⟩:∃m,n=m+9:=⟨n-9,by omega⟩
  exact hz
theorem uH {t:Tr} (h:t.ok) (hl:t.enc.length≤3006):((Cz (An t)).getD []).length≤60000000:=uG (Rs h hl) (jK h hl)
theorem uI {t:Tr} (h:t.ok) (hl:t.enc.length≤3006):(gnE (An t)).length≤60000006:=by
 have:=uH h hl
 have:=Ak 2 (An t).k.toNat (Co (An t).k) ((Cz (An t)).getD []) (by omega)
 unfold gnE;omega
def fW (g:Gn):List D:=[iD g.k,sD g.oid,sD g.tx,Ac false g.by',H2 g.nm,iD g.ak,sD g.av,iD g.pk,sD g.pv]
def CW (l:List Gn):D:=G4 true 9 fW l
theorem yP (g:Gn):D.uns (fW g)=gnC g:=by simp only[fW,gnC,D.uns,Ah,Bs,D.un]
theorem D.uns_app (a b:List D):D.uns (a++b)=D.uns a++D.uns b:=by
 induction a with
 |nil=>rfl
 |cons x r ih=>show D.un x::D.uns (r++b)=D.un x::(D.uns r++D.uns b);rw[ih]
theorem jL (l:List Gn):D.uns (l.flatMap fW)=l.flatMap gnC:=by
 induction l with
 |nil=>rfl
 |cons g r ih=>rw[List.flatMap_cons,D.uns_app,yP,ih,List.flatMap_cons]
theorem Ke (l:List Gn):(CW l).un=Ei l:=by
 show D.sl false l.length 9 (D.uns (l.flatMap fW))=_
 rw[jL];rfl
theorem CX {α:Type} (f:α→Bool) {l:List α} {i:Nat} {x:α} (hg:l[i]?=some x) (hx:f x=false):l.all f=false:=by
 cases hh:l.all f with
 |false=>rfl
 |true=>rw[List.all_eq_true.1 hh x (List.mem_of_getElem? hg)] at hx;cases hx
def fX (b:List UInt8) (v:Gn):Bool:=gnW v&&(gnE v==b)
theorem jM {b:List UInt8} (hb:b.length≤3000):(A9 b).ok∧(A9 b).enc.length≤3002:=by
 have:=xP b;exact⟨this.1,by omega⟩
theorem Cc {p:Prop} (h:p:=by first|rfl|(simp only[AV.gives,AV.ren,AV.give,D.un,D.uns,Ah,Aj,List.nil_append,List.append_nil,List.cons_append,Am,A0,Cp,Bf,Ay,Ci,Cn,Cq,Bs,Cf,Bg,Tr.cellss_un,Ke,jL];first|done|rfl)):p:=h
theorem bW (b:List UInt8) (hb:b.length≤3000):Aa Tryz.prog 19 [.d (Ac false b)] (fun r=>r=if fX b (An (A9 b))=true then .tup [gnF (An (A9 b)),bv true] else .tup [gnT 0 [],bv false]):=by
 obtain⟨s1,s2⟩:=jM hb
 have hz:=Rs s1 (by omega)
 have hl:=uI s1 (by omega)
 have hD:=aQ b (by omega)
 have hR:=bV (A9 b) (zI s1 (by omega))
 have hM:=Ue (An (A9 b)) hz
 have hB:=Au false false (gnE (An (A9 b))) b (by omega) (by omega)
 unfold fX
 generalize gnE (An (A9 b))=E at hM hB⊢
 generalize gnW (An (A9 b))=W at hM⊢
 generalize An (A9 b)=v at hR hM⊢
 clear s1 s2 hz hl
 generalize A9 b=t at hD hR
 generalize ((Cb 60 b).code==0)=q at hD
 obtain⟨c,n,k,b',ks⟩:=t
 obtain⟨k1,o1,t1,b1,n1,ak,av,pk,pv⟩:=v
 rw[Bo] at hR
 rw[Tu rfl] at hD
 cases W with
 |false=>
  have hM:Aa Tryz.prog 20 [gnA ⟨k1,o1,t1,b1,n1,ak,av,pk,pv⟩] (fun r=>r= .tup [As,iv 8]):=hM
  rw[Bool.false_and]
  refine acQ 31 Tryz.func19 rfl rfl fun _ _ _=> ?_
  (repeat'((conv=>whnf);first|refine NBr.yes ?_|refine NCall.eq hD Cc ?_|refine NCall.eq hR Cc ?_|refine NCall.eq hM Cc ?_));(all_goals(conv=>whnf))
  all_goals exact NEnd.eq leQ
 |true=>
  have hM:Aa Tryz.prog 20 [gnA ⟨k1,o1,t1,b1,n1,ak,av,pk,pv⟩] (fun r=>r= .tup [Ap 0 5 E,iv 0]):=hM
  rw[Bool.true_and]
  cases hq:(E==b)
  all_goals
   rw[hq] at hB
   clear hq
   refine acQ 31 Tryz.func19 rfl rfl fun _ _ _=> ?_
   (repeat'((conv=>whnf);first|refine NBr.yes ?_|refine NBr.no ?_|refine NCall.eq hD Cc ?_|refine NCall.eq hR Cc ?_|refine NCall.eq hM Cc ?_|refine NCall.eq hB Cc ?_));(all_goals(conv=>whnf))
   all_goals exact NEnd.eq leQ
structure gnsZ (l:List Gn):Prop where
 n:l.length≤100000
 z:∀g∈l,Gn.zz g
 e:(l.map gnE).flatten.length≤90000000
def Ny (l:List Gn):Bool:= !l.isEmpty&&l.all gnW
theorem Wk (l:List Gn) (hz:gnsZ l):Aa Tryz.prog 29 [.d (Ei l)] (fun r=>r=bv (Ny l)):=by
 obtain⟨hl,hs,-⟩:=hz
 unfold Ny
 refine acQ 19 Tryz.func29 rfl rfl fun _ _ _=> ?_
 (all_goals(conv=>whnf))
 refine NLoop.go (fun i:Nat=>i≤l.length∧(l.take i).all gnW=true) (fun i=>l.length-i) (fun i=>⟨[(0,.d (Ei l)),(3,iv i)],[],[]⟩) 0 ⟨by omega,rfl⟩ leQ ?_
 rintro i ⟨hi,ha⟩
 by_cases hik:i<l.length
 ·have gi:decide ((i:Int)<l.length)=true:=decide_eq_true (by omega)
  obtain⟨x,hg⟩:∃p,l[i]?=some p:=⟨_,List.getElem?_eq_getElem hik⟩
  have hV:=D0 x (hs x (List.mem_of_getElem? hg))
  cases h1:gnW x
  ·rw[h1] at hV
   rw[CX gnW hg h1,Bool.and_false]
   (repeat'((conv=>whnf);first|refine NBr.pos asQ ?_|refine NBr.yes ?_|refine NIdx.tab (fun _=>rfl) hg ?_|refine NCall.eq hV Cc ?_));(all_goals(conv=>whnf))
   all_goals exact NEnd.eq leQ
  ·rw[h1] at hV
   (repeat'((conv=>whnf);first|refine NBr.pos asQ ?_|refine NBr.no ?_|refine NIdx.tab (fun _=>rfl) hg ?_|refine NCall.eq hV Cc ?_|(with_reducible refine NInt.i64 ?_)));(all_goals(conv=>whnf))
   refine⟨i+1,⟨by omega,Hl gnW hg h1 ha⟩,by omega,?_⟩
   exact leQ
 ·have gi:decide ((i:Int)<l.length)=false:=decide_eq_false (by omega)
  obtain rfl:i=l.length:=by omega
  rw[List.take_length] at ha
  rw[ha,Bool.and_true,show(!l.isEmpty)=decide ((l.length:Int)>0) by cases l with|nil=>rfl|cons a r=>exact(decide_eq_true (by simp only[List.length_cons];omega)).symm]
  (repeat'((conv=>whnf);refine NBr.neg asQ ?_));(all_goals(conv=>whnf))
  all_goals exact NEnd.eq leQ
theorem uJ (x:UInt8) (l:List Gn) (hz:gnsZ l) (hv:l.all gnW=true):Aa Tryz.prog 59 [cv x.toNat,.d (Ei l)] (fun r=>r=Ap 0 5 (Km x (l.map gnE).flatten)):=by
 have hU:=Gp x (l.map gnE) (by rw[List.length_map];have:=hz.n;omega) (by have:=hz.e;omega)
 obtain⟨hl,hs,-⟩:=hz
 refine acQ 30 Tryz.func59 rfl rfl fun _ _ _=> ?_
 (all_goals(conv=>whnf))
 refine NLoop.goA [.s 5 1 22] (fun i:Nat=>i≤l.length) (fun i=>l.length-i) (fun i=>⟨[(0,cv x.toNat),(1,.d (Ei l)),(5,Cf 5 1 22 F7 ((l.take i).map gnE)),(6,iv i)],[],[(5,(((l.take i).map gnE).length,1,22))]⟩) 0 (by omega) leQ ?_
 rintro i hi
 have hml:((l.take i).map gnE).length≤100000:=by rw[List.length_map,List.length_take];omega
 by_cases hik:i<l.length
 ·have gi:decide ((i:Int)<l.length)=true:=decide_eq_true (by omega)
  obtain⟨g,hg⟩:∃p,l[i]?=some p:=⟨_,List.getElem?_eq_getElem hik⟩
  have hM:=Ue g (hs g (List.mem_of_getElem? hg))
  rw[List.all_eq_true.1 hv g (List.mem_of_getElem? hg)] at hM
  have hM:Aa Tryz.prog 20 [gnA g] (fun r=>r= .tup [Ap 0 5 (gnE g),iv 0]):=hM
  have hs1:=F8 gnE hg
  generalize gnE g=e at hM hs1
  (repeat'((conv=>whnf);first|refine NBr.pos asQ ?_|refine NIdx.tab (fun _=>rfl) hg ?_|refine NCall.eq hM Cc ?_|refine NApp.one F7 e ?_|(with_reducible refine NInt.i64 ?_)));(all_goals(conv=>whnf))
  refine⟨i+1,by omega,by omega,?_⟩
  rw[hs1]
  exact leQ
 ·have gi:decide ((i:Int)<l.length)=false:=decide_eq_false (by omega)
  obtain rfl:i=l.length:=by omega
  rw[List.take_length]
  (repeat'((conv=>whnf);first|refine NBr.neg asQ ?_|refine NCall.eq hU Cc ?_));(all_goals(conv=>whnf))
  all_goals exact NEnd.eq leQ
theorem Wl (l:List Gn) (hz:gnsZ l):Aa Tryz.prog 27 [.d (Ei l)] (fun r=>r=O9 (Ny l) (Cv l)):=by
 have hV:=Wk l hz
 cases h:Ny l
 ·rw[h] at hV
  refine acQ 9 Tryz.func27 rfl rfl fun _ _ _=> ?_
  (repeat'((conv=>whnf);first|refine NBr.yes ?_|refine NCall.eq hV Cc ?_));(all_goals(conv=>whnf))
  all_goals exact NEnd.eq leQ
 ·rw[h] at hV
  have hT:Aa Tryz.prog 59 [cv 48,.d (Ei l)] (fun r=>r=Ap 0 5 (Cv l)):=uJ 48 l hz (by unfold Ny at h;simp at h;simp;exact h.2)
  show Aa Tryz.prog 27 [.d (Ei l)] (fun r=>r= .tup [Ap 0 5 (Cv l),iv 0])
  refine acQ 9 Tryz.func27 rfl rfl fun _ _ _=> ?_
  (repeat'((conv=>whnf);first|refine NBr.no ?_|refine NCall.eq hV Cc ?_|refine NCall.eq hT Cc ?_));(all_goals(conv=>whnf))
  all_goals exact NEnd.eq leQ
theorem nR (t:Tr) (hn:t.ks.length≤100000) (hk:∀k∈t.ks,k.gn):Aa Tryz.prog 60 [trF t] (fun r=>r= .d (CW (t.ks.map An))):=by
 obtain⟨c,n,k,b,ks⟩:=t
 rw[Bo]
 simp only[Tr.ks] at hn hk⊢
 refine acQ 22 Tryz.func60 rfl rfl fun _ _ _=> ?_
 (all_goals(conv=>whnf))
 refine NLoop.goA [.s 3 9 28] (fun i:Nat=>i≤ks.length) (fun i=>ks.length-i) (fun i=>⟨[(1,.ptr 1 0),(3,Cf 3 9 28 fW ((ks.take i).map An)),(4,iv i)],[(1,[iv c,iv n,bv k,.d (Ac false b),.d (.sl false ks.length 5 (Tr.cellss false ks))])],[(3,(((ks.take i).map An).length,9,28))]⟩) 0 (by omega) leQ ?_
 rintro i hi
 have hml:((ks.take i).map An).length≤100000:=by rw[List.length_map,List.length_take];omega
 by_cases hik:i<ks.length
 ·have gi:decide ((i:Int)<ks.length)=true:=decide_eq_true (by omega)
  obtain⟨x,hg⟩:∃p,ks[i]?=some p:=⟨_,List.getElem?_eq_getElem hik⟩
  have hR:=bV x (hk x (List.mem_of_getElem? hg))
  have hs:=F8 An hg
  generalize An x=a at hR hs
  obtain⟨c',n',k',b',ks'⟩:=x
  rw[Bo] at hR
  (repeat'((conv=>whnf);first|refine NBr.pos asQ ?_|(refine NIdx.trs hg ?_)|refine NCall.eq hR Cc ?_|refine NApp.one fW a ?_|(with_reducible refine NInt.i64 ?_)));(all_goals(conv=>whnf))
  refine⟨i+1,by omega,by omega,?_⟩
  rw[hs]
  exact leQ
 ·have gi:decide ((i:Int)<ks.length)=false:=decide_eq_false (by omega)
  obtain rfl:i=ks.length:=by omega
  rw[List.take_length]
  (repeat'((conv=>whnf);refine NBr.neg asQ ?_));(all_goals(conv=>whnf))
  all_goals exact NEnd.eq leQ
def Uh (b:List UInt8) (v:List Gn):Bool:=Ny v&&(Cv v==b)
theorem uK {t:Tr} (h:t.ok) (hl:t.enc.length≤3006):(An t).oid.length≤21*t.enc.length+63∧(An t).by'.length≤t.enc.length+2∧(An t).tx.length≤4*t.enc.length∧(nmE (An t).nm).length≤63*t.enc.length+140∧(An t).av.length≤4*t.enc.length+16∧(An t).pv.length≤4*t.enc.length+16:=by
 obtain⟨a1,a2⟩:=Ll h 0
 obtain⟨b1,b2⟩:=Ll h 1
 have p0:=t.parts
 have p1:=(t.kid 1).parts
 have v0:=Lr h 0
 have v1:=Lr a1 0
 have v2:=Lr b1 0
 have n0:=CV a1 (by omega)
 have o0:=O4 (t.kid 0).v
 have o1:=O4 t.v
 have d0:=H4 22 t.v
 have d1:=H4 ((t.kid 0).kid 0).n ((t.kid 0).kid 0).v
 have d2:=H4 ((t.kid 1).kid 0).n ((t.kid 1).kid 0).v
 have hz:(nmE []).length=2:=by decide+kernel
 have z0:([]:List UInt8).length=0:=rfl
 obtain⟨c,n,k,b,ks⟩:=t
 generalize he:(Tr.mk c n k b ks).enc.length=e at*
 by_cases hn:n≤8
 ·rcases(by omega:n=0∨n=1∨n=2∨n=3∨n=4∨n=5∨n=6∨n=7∨n=8) with rfl|rfl|rfl|rfl|rfl|rfl|rfl|rfl|rfl
  case inr.inr.inr.inr.inr.inl=>
   rw[show An (.mk c 5 k b ks)=if isT ((Tr.mk c 5 k b ks).kid 0) 2 0 true then⟨5,[],[],[],[],Mq (((Tr.mk c 5 k b ks).kid 0).kid 0),Mr (((Tr.mk c 5 k b ks).kid 0).kid 0),Mq (((Tr.mk c 5 k b ks).kid 1).kid 0),Mr (((Tr.mk c 5 k b ks).kid 1).kid 0)⟩ else⟨5,[],[],[],[],0,[],Mq (((Tr.mk c 5 k b ks).kid 0).kid 0),Mr (((Tr.mk c 5 k b ks).kid 0).kid 0)⟩ from rfl]
   split
   ·exact⟨Nat.le_trans (Nat.le_of_eq z0) (by omega),Nat.le_trans (Nat.le_of_eq z0) (by omega),Nat.le_trans (Nat.le_of_eq z0) (by omega),Nat.le_trans (Nat.le_of_eq hz) (by omega),Nat.le_trans d1 (by omega),Nat.le_trans d2 (by omega)⟩
   ·exact⟨Nat.le_trans (Nat.le_of_eq z0) (by omega),Nat.le_trans (Nat.le_of_eq z0) (by omega),Nat.le_trans (Nat.le_of_eq z0) (by omega),Nat.le_trans (Nat.le_of_eq hz) (by omega),Nat.le_trans (Nat.le_of_eq z0) (by omega),Nat.le_trans d1 (by omega)⟩
  all_goals(refine⟨?_,?_,?_,?_,?_,?_⟩<;>first|exact Nat.le_trans o0 (by omega)|exact Nat.le_trans o1 (by omega)|exact Nat.le_trans d0 (by omega)|exact Nat.le_trans n0 (by omega)|exact Nat.le_trans (Nat.le_of_eq hz) (by omega)|exact Nat.le_trans (Nat.le_of_eq z0) (by omega)|(show(Tr.encs _).length≤_;omega)|(show b.length≤_;simp only[Tr.v] at p0;omega))
 ·obtain⟨m,rfl⟩:∃m,n=m+9:=⟨n-9,by omega⟩
  refine⟨?_,?_,?_,?_,?_,?_⟩<;>first|exact Nat.le_trans (Nat.le_of_eq hz) (by omega)|exact Nat.le_trans (Nat.le_of_eq z0) (by omega)
theorem uL {t:Tr} (h:t.ok) (hl:t.enc.length≤3006):(gnE (An t)).length≤400*t.enc.length:=by
 obtain⟨q1,q2,q3,q4,q5,q6⟩:=uK h hl
 have hc:=Ug (Rs h hl) (jK h hl)
 have he:=t.enc_two
 have:=Ak 2 (An t).k.toNat (Co (An t).k) ((Cz (An t)).getD []) (by omega)
 unfold gnE;omega
theorem uM {b:List UInt8} (hb:b.length≤3000):(A9 b).ks.length≤100000∧(∀k∈(A9 b).ks,k.gn)∧gnsZ ((A9 b).ks.map An)∧(Cv ((A9 b).ks.map An)).length≤800000000:=by
 obtain⟨s1,s2⟩:=jM hb
 have hk:=M2 s1
 have hc:=Tr.encs_two (A9 b).ks
 have hp:=(A9 b).parts
 have hm:=Uf (f:=fun k=>gnE (An k)) (C:=400) (l:=(A9 b).ks) fun k hm=>uL (hk k hm).1 (by have:=(hk k hm).2;omega)
 have hf:(((A9 b).ks.map An).map gnE).flatten.length≤400*(Tr.encs (A9 b).ks).length:=by rw[List.map_map];exact hm
 have h7:=Ak 0 16 true (((A9 b).ks.map An).map gnE).flatten (by omega)
 refine⟨by omega,fun k hm=>zI (hk k hm).1 (by have:=(hk k hm).2;omega),⟨by rw[List.length_map];omega,fun g hg=> ?_,by omega⟩,by unfold Cv;omega⟩
 obtain⟨k,hm,rfl⟩:=List.mem_map.1 hg
 exact Rs (hk k hm).1 (by have:=(hk k hm).2;omega)
theorem nS (b:List UInt8) (hb:b.length≤3000):Aa Tryz.prog 30 [.d (Ac false b)] (fun r=>r=if Uh b ((A9 b).ks.map An)=true then .tup [.d (CW ((A9 b).ks.map An)),bv true] else .tup [As,bv false]):=by
 obtain⟨g1,g2,g3,g4⟩:=uM hb
 have hD:=aQ b (by omega)
 have hR:=nR (A9 b) g1 g2
 have hM:=Wl _ g3
 have hB:=Au false false (Cv ((A9 b).ks.map An)) b (by omega) (by omega)
 unfold Uh
 clear g3
 generalize Cv ((A9 b).ks.map An)=E at hM hB g4⊢
 generalize Ny ((A9 b).ks.map An)=W at hM⊢
 generalize (A9 b).ks.map An=v at hR hM⊢
 clear g1 g2 g4
 generalize A9 b=t at hD hR
 generalize ((Cb 60 b).code==0)=q at hD
 obtain⟨c,n,k,b',ks⟩:=t
 rw[Bo] at hR
 rw[Tu rfl] at hD
 cases W with
 |false=>
  have hM:Aa Tryz.prog 27 [.d (Ei v)] (fun r=>r= .tup [As,iv 8]):=hM
  rw[Bool.false_and]
  refine acQ 30 Tryz.func30 rfl rfl fun _ _ _=> ?_
  (repeat'((conv=>whnf);first|refine NBr.yes ?_|refine NCall.eq hD Cc ?_|refine NCall.eq hR Cc ?_|refine NCall.eq hM Cc ?_));(all_goals(conv=>whnf))
  all_goals exact NEnd.eq leQ
 |true=>
  have hM:Aa Tryz.prog 27 [.d (Ei v)] (fun r=>r= .tup [Ap 0 5 E,iv 0]):=hM
  rw[Bool.true_and]
  cases hq:(E==b)
  all_goals
   rw[hq] at hB
   clear hq
   refine acQ 30 Tryz.func30 rfl rfl fun _ _ _=> ?_
   (repeat'((conv=>whnf);first|refine NBr.yes ?_|refine NBr.no ?_|refine NCall.eq hD Cc ?_|refine NCall.eq hR Cc ?_|refine NCall.eq hM Cc ?_|refine NCall.eq hB Cc ?_));(all_goals(conv=>whnf))
   all_goals exact NEnd.eq leQ
theorem Dm (c n:Nat) (k:Bool) (l:List UInt8):l.length+2≤(Ae c n k l).length:=by
 have:=Wj l.length
 unfold Ae;rw[Dy];omega
theorem Pc {α:Type} (f:α→List UInt8) (k:Nat):∀{l:List α},(∀x∈l,k≤(f x).length)→k*l.length≤(l.map f).flatten.length
 |[],_=>by simp
 |x::r,h=>by
  have h1:=h x (by simp)
  have h2:=Pc f k (l:=r) fun y hy=>h y (by simp[hy])
  rw[List.map_cons,List.flatten_cons,List.length_append,List.length_cons,Nat.mul_add];omega
theorem Wm {a:Att} (h:Ig a=true):a.sm∧(atE a).length≤212+a.val.length:=by
 unfold Ig at h
 simp only[Bool.and_eq_true,decide_eq_true_eq] at h
 obtain⟨h1,h2⟩:=h
 have k1:=Xz a.oid
 have k2:=Ak 0 6 false (Ar a.oid) (by omega)
 have k3:=Ak 0 16 true (Ae 0 6 false (Ar a.oid)++a.val) (by rw[List.length_append];omega)
 rw[List.length_append] at k3
 exact⟨⟨by omega,by omega⟩,by unfold atE;omega⟩
theorem Ui:∀{r:List Att},r.all Ig=true→(r.map atE).flatten.length≤212*r.length+Kn r
 |[],_=>by simp[Kn]
 |a::r,h=>by
  rw[List.all_cons,Bool.and_eq_true] at h
  have h1:=(Wm h.1).2
  have h2:=Ui h.2
  unfold Kn at h2⊢
  rw[List.map_cons,List.flatten_cons,List.length_append,List.map_cons,List.sum_cons,List.length_cons];omega
theorem Uj {r:List Att} (h:E0 r=true):rdnZ r∧(Br r).length≤1702+Kn r:=by
 obtain⟨h1,h2,h3⟩:=J4 h
 have h4:=Ui h2
 have h5:=Ak 0 17 true (r.map atE).flatten (by omega)
 exact⟨⟨by omega,fun a ha=>(Wm (List.all_eq_true.1 h2 a ha)).1,by omega⟩,by unfold Br;omega⟩
theorem Qz:∀{n:List (List Att)},n.all E0=true→(n.map Br).flatten.length≤1702*n.length+Jf n
 |[],_=>by simp[Jf]
 |a::r,h=>by
  rw[List.all_cons,Bool.and_eq_true] at h
  have h1:=(Uj h.1).2
  have h2:=Qz h.2
  unfold Jf at h2⊢
  rw[List.map_cons,List.flatten_cons,List.length_append,List.map_cons,List.sum_cons,List.length_cons];omega
theorem bX {n:List (List Att)} (h:F1 n=true):nmZ n∧(nmE n).length≤19026:=by
 obtain⟨h1,h2,h3⟩:=Iy h
 have h4:=Qz h2
 have h5:=Ak 0 16 true (n.map Br).flatten (by omega)
 exact⟨⟨by omega,fun r hr=>(Uj (List.all_eq_true.1 h2 r hr)).1,by omega⟩,by unfold nmE;omega⟩
theorem Pd {g:Gn} (h:G8 g=true):g.mid∧(gnE g).length≤23392:=by
 obtain⟨h1,h2,h3,h4,h5,h6⟩:=K8 h
 obtain⟨n1,n2⟩:=bX h4
 have hz:g.zz:=⟨by omega,by omega,by omega,n1,by omega,by omega⟩
 have hc:=Ug hz (by omega)
 have:=Ak 2 g.k.toNat (Co g.k) ((Cz g).getD []) (by omega)
 exact⟨⟨hz.s,by omega⟩,by unfold gnE;omega⟩
theorem Uk {l:List Gn} (h:F2 l=true):l.length≤8∧gnsM l∧(l.map gnE).flatten.length≤187136:=by
 obtain⟨h1,h2,-⟩:=Uy h
 have h3:∀l:List Gn,l.all G8=true→(l.map gnE).flatten.length≤23392*l.length:=by
  intro l
  induction l with
  |nil=>simp
  |cons a r ih=>
   intro h
   rw[List.all_cons,Bool.and_eq_true] at h
   have h1:=(Pd h.1).2
   have h2:=ih h.2
   rw[List.map_cons,List.flatten_cons,List.length_append,List.length_cons];omega
 have h4:=h3 l h2
 exact⟨h1,⟨by omega,fun g hg=>(Pd (List.all_eq_true.1 h2 g hg)).1,by omega⟩,by omega⟩
theorem ED {a:Att} (h:atV a=true) (hl:(atE a).length≤400000):a.sm∧4≤(atE a).length:=by
 obtain⟨h1,-⟩:=Ro h
 have h3:=Tl h1
 have h4:=Dm 0 6 false (Ar a.oid)
 have h5:=Dm 0 16 true (Ae 0 6 false (Ar a.oid)++a.val)
 rw[List.length_append] at h5
 have e:(atE a).length=(Ae 0 16 true (Ae 0 6 false (Ar a.oid)++a.val)).length:=rfl
 exact⟨⟨by omega,by omega⟩,by omega⟩
theorem CY {r:List Att} (h:Eo r=true) (hl:(Br r).length≤400000):rdnZ r∧4≤(Br r).length:=by
 obtain⟨h0,h1,-⟩:=Rp h
 have h2:=Dm 0 17 true (r.map atE).flatten
 have e:(Br r).length=(Ae 0 17 true (r.map atE).flatten).length:=rfl
 have h3:∀a∈r,a.sm∧4≤(atE a).length:=fun a ha=>by
  have:=G1 (List.mem_map_of_mem (f:=atE) ha)
  exact ED (List.all_eq_true.1 h1 a ha) (by omega)
 have h4:=Pc atE 4 fun a ha=>(h3 a ha).2
 have h5:1≤r.length:=by cases r with|nil=>exact absurd rfl h0|cons _ _=>simp
 exact⟨⟨by omega,fun a ha=>(h3 a ha).1,by omega⟩,by omega⟩
theorem EE {n:List (List Att)} (h:nmV n=true) (hl:(nmE n).length≤400000):nmZ n:=by
 have h2:=Dm 0 16 true (n.map Br).flatten
 have e:(nmE n).length=(Ae 0 16 true (n.map Br).flatten).length:=rfl
 have h3:∀r∈n,rdnZ r∧4≤(Br r).length:=fun r hr=>by
  have:=G1 (List.mem_map_of_mem (f:=Br) hr)
  exact CY (List.all_eq_true.1 h r hr) (by omega)
 have h4:=Pc Br 4 fun r hr=>(h3 r hr).2
 exact⟨by omega,fun r hr=>(h3 r hr).1,by omega⟩
theorem uN {k:Int} {l:List UInt8} (h:Af k l=true):l.length≤4*(chS k l).length:=by
 have:=H4 k (chS k l)
 rwa[(P6 h).2.1] at this
theorem uO {k:Int} {l:List UInt8} (h:Af k l=true):l.length≤4*(txE k l).length:=by
 have h1:=uN h
 have h2:=Dm 0 k.toNat false (chS k l)
 unfold txE;omega
theorem Hf {g:Gn} (h:gnW g=true) (hl:(gnE g).length≤400000):g.mid:=by
 obtain⟨h1,-,⟨c,h3⟩,h4⟩:=(Ka g).1 h
 have hc:c.length≤400000:=by
  have:=Dm 2 g.k.toNat (Co g.k) ((Cz g).getD [])
  have e:(gnE g).length=(Ae 2 g.k.toNat (Co g.k) ((Cz g).getD [])).length:=rfl
  rw[h3] at this e
  have e2:((some c).getD [])=c:=rfl
  rw[e2] at this e;omega
 refine⟨?_,by rw[h3];show c.length≤_;omega⟩
 obtain⟨m,hm,hk⟩:=Nr h3
 obtain⟨k,oid,tx,by',nm,ak,av,pk,pv⟩:=g
 rw[C4] at h1
 obtain⟨a1,a2,a3,a4,a5⟩:=h1
 simp only at hk a1 a2 a3 a4 a5
 subst hk
 unfold Cz at h3
 simp only at h3
 have l0:([]:List UInt8).length=0:=rfl
 rcases(by omega:m=0∨m=1∨m=2∨m=3∨m=4∨m=5∨m=6∨m=7∨m=8) with rfl|rfl|rfl|rfl|rfl|rfl|rfl|rfl|rfl
 ·obtain rfl:tx=[]:=by simpa using a2
  obtain rfl:nm=[]:=by simpa using a4
  obtain⟨⟨rfl,rfl⟩,rfl,rfl⟩:(ak=0∧av=[])∧pk=0∧pv=[]:=by simpa using a5
  rw[if_pos (by rfl)] at h3
  by_cases ho:Dt oid=true
  ·rw[if_pos ho] at h3
   obtain rfl:=Option.some.inj h3
   have:=Tl ho
   have:=Dm 0 6 false (Ar oid)
   have:=Dm 2 0 true by'
   rw[List.length_append] at hc
   exact⟨by show oid.length≤_;omega,by simp,by show by'.length≤_;omega,Dc,by simp,by simp⟩
  ·rw[if_neg ho] at h3;cases h3
 case inr.inr.inr.inl=>
  obtain rfl:oid=[]:=by simpa using a1
  obtain rfl:tx=[]:=by simpa using a2
  obtain rfl:nm=[]:=by simpa using a4
  obtain⟨⟨rfl,rfl⟩,rfl,rfl⟩:(ak=0∧av=[])∧pk=0∧pv=[]:=by simpa using a5
  rw[if_neg (by decide),if_neg (by decide),if_pos (by decide)] at h3
  obtain rfl:=Option.some.inj h3
  exact⟨by simp,by simp,by show by'.length≤_;omega,Dc,by simp,by simp⟩
 case inr.inr.inr.inr.inl=>
  obtain rfl:oid=[]:=by simpa using a1
  obtain rfl:tx=[]:=by simpa using a2
  obtain rfl:by'=[]:=by simpa using a3
  obtain⟨⟨rfl,rfl⟩,rfl,rfl⟩:(ak=0∧av=[])∧pk=0∧pv=[]:=by simpa using a5
  rw[if_neg (by decide),if_neg (by decide),if_neg (by decide),if_pos (by rfl)] at h3
  by_cases ho:nmV nm=true
  ·rw[if_pos ho] at h3
   obtain rfl:=Option.some.inj h3
   exact⟨by simp,by simp,by simp,EE ho hc,by simp,by simp⟩
  ·rw[if_neg ho] at h3;cases h3
 case inr.inr.inr.inr.inr.inl=>
  obtain rfl:oid=[]:=by simpa using a1
  obtain rfl:tx=[]:=by simpa using a2
  obtain rfl:by'=[]:=by simpa using a3
  obtain rfl:nm=[]:=by simpa using a4
  rw[if_neg (by decide),if_neg (by decide),if_neg (by decide),if_neg (by decide),if_pos (by rfl)] at h3
  unfold Lo at h3
  simp only at h3
  by_cases hh:((zT ak av||Af ak av)&&Af pk pv)=true
  ·rw[if_pos hh] at h3
   obtain rfl:=Option.some.inj h3
   rw[Bool.and_eq_true,Bool.or_eq_true] at hh
   have k1:=uO hh.2
   have k2:=Dm 2 1 true (txE pk pv)
   rw[List.length_append] at hc
   refine⟨by simp,by simp,by simp,Dc,?_,by show pv.length≤_;omega⟩
   show av.length≤_
   by_cases hz:zT ak av=true
   ·rw[(P7.1 hz).2];simp
   ·rw[if_neg hz] at hc
    have k3:=uO (hh.1.resolve_left hz)
    have k4:=Dm 2 0 true (txE ak av)
    omega
  ·rw[if_neg hh] at h3;cases h3
 case inr.inr.inr.inr.inr.inr.inr.inl=>
  obtain rfl:oid=[]:=by simpa using a1
  obtain rfl:tx=[]:=by simpa using a2
  obtain rfl:nm=[]:=by simpa using a4
  obtain⟨⟨rfl,rfl⟩,rfl,rfl⟩:(ak=0∧av=[])∧pk=0∧pv=[]:=by simpa using a5
  rw[if_neg (by decide),if_neg (by decide),if_pos (by decide)] at h3
  obtain rfl:=Option.some.inj h3
  exact⟨by simp,by simp,by show by'.length≤_;omega,Dc,by simp,by simp⟩
 case inr.inr.inr.inr.inr.inr.inr.inr=>
  obtain rfl:tx=[]:=by simpa using a2
  obtain rfl:by'=[]:=by simpa using a3
  obtain rfl:nm=[]:=by simpa using a4
  obtain⟨⟨rfl,rfl⟩,rfl,rfl⟩:(ak=0∧av=[])∧pk=0∧pv=[]:=by simpa using a5
  rw[if_neg (by decide),if_neg (by decide),if_neg (by decide),if_neg (by decide),if_neg (by decide),if_pos (by rfl)] at h3
  by_cases ho:Dt oid=true
  ·rw[if_pos ho] at h3
   obtain rfl:=Option.some.inj h3
   have:=Tl ho
   exact⟨by show oid.length≤_;omega,by simp,by simp,Dc,by simp,by simp⟩
  ·rw[if_neg ho] at h3;cases h3
 all_goals
  obtain rfl:oid=[]:=by simpa using a1
  obtain rfl:by'=[]:=by simpa using a3
  obtain rfl:nm=[]:=by simpa using a4
  obtain⟨⟨rfl,rfl⟩,rfl,rfl⟩:(ak=0∧av=[])∧pk=0∧pv=[]:=by simpa using a5
  rw[if_neg (by decide),if_pos (by decide)] at h3
  by_cases ho:Af 22 tx=true
  ·rw[if_pos ho] at h3
   obtain rfl:=Option.some.inj h3
   have:=uN ho
   exact⟨by simp,by show tx.length≤_;omega,by simp,Dc,by simp,by simp⟩
  ·rw[if_neg ho] at h3;cases h3
theorem Ul {l:List Gn} (h:l.all gnW=true) (hl:(l.map gnE).flatten.length≤400000):gnsM l:=by
 have hm:∀g∈l,g.mid:=fun g hg=>by
  have:=G1 (List.mem_map_of_mem (f:=gnE) hg)
  exact Hf (List.all_eq_true.1 h g hg) (by omega)
 have h4:=Pc gnE 2 (l:=l) fun g _=>by
  have:=Dm 2 g.k.toNat (Co g.k) ((Cz g).getD [])
  unfold gnE;omega
 exact⟨by omega,hm,by omega⟩
def fY (g:Gn):List D:=[iD g.k,sD g.oid,sD g.tx,Ac true g.by',H2 g.nm,iD g.ak,sD g.av,iD g.pk,sD g.pv]
def uP (l:List Gn):D:=G4 true 9 fY l
theorem jN (g:Gn):D.uns (fY g)=gnC g:=by simp only[fY,gnC,D.uns,Ah,Bs,D.un]
theorem jO (l:List Gn):D.uns (l.flatMap fY)=l.flatMap gnC:=by
 induction l with
 |nil=>rfl
 |cons g r ih=>rw[List.flatMap_cons,D.uns_app,jN,ih,List.flatMap_cons]
theorem Kf (l:List Gn):(uP l).un=Ei l:=by
 show D.sl false l.length 9 (D.uns (l.flatMap fY))=_
 rw[jO];rfl
theorem jP {l:List Gn} (h:∀g∈l,g.mid):Yk l=Ny l:=by
 unfold Yk Ny
 congr 1
 induction l with
 |nil=>rfl
 |cons a r ih=>rw[List.all_cons,List.all_cons,fS (h a (by simp)),ih fun g hg=>h g (by simp[hg])]
theorem Ge {l:List Gn}:Ny l=true↔l≠[]∧l.all gnW=true:=by
 unfold Ny
 cases l<;>simp
theorem yQ {p:Prop} (h:p:=by first|rfl|(simp only[AV.gives,AV.ren,AV.give,D.un,D.uns,Ah,Aj,List.nil_append,List.append_nil,List.cons_append,Am,A0,Cp,Bf,Ay,Ci,Cn,Cq,Bs,Cf,Bg];first|done|rfl)):p:=h
theorem Um (g:Gn) (h:g.mid):Aa Tryz.prog 21 [gnA g] (fun r=>r=bv (gnW g)):=by
 have hM:=Ns g h.s h.c
 rw[fS h] at hM
 unfold O9 at hM
 cases hv:gnW g
 all_goals
  rw[hv] at hM
  first|rw[if_pos rfl] at hM|rw[if_neg (by simp)] at hM
  refine acQ 12 Tryz.func21 rfl rfl fun _ _ _=> ?_
  (repeat'((conv=>whnf);refine NCall.eq hM yQ ?_));(all_goals(conv=>whnf))
  all_goals exact NEnd.eq leQ
theorem Fq (g:Gn) (h:g.mid):Aa Tryz.prog 14 [gnA g] (fun r=>r=O9 (gnW g) (gnE g)):=by
 have hM:=Ns g h.s h.c
 rwa[fS h] at hM
theorem Kg (l:List Gn) (h:gnsM l):Aa Tryz.prog 24 [.d (Ei l)] (fun r=>r=O9 (Ny l) (Cv l)):=by
 have hM:=Qx l h
 rwa[jP h.m] at hM
theorem Un (l:List Gn) (h:gnsM l):Aa Tryz.prog 28 [.d (Ei l)] (fun r=>r=bv (Ny l)):=by
 have hM:=bH l h
 rwa[jP h.m] at hM
theorem Ls (b:List UInt8) (hl:b.length≤800000):(∃g,gnW g=true∧b=gnE g∧G6 b=some g)∨G6 b=none:=by
 cases h:G6 b with
 |none=>exact .inr rfl
 |some g=>exact .inl ⟨g,(T9 h hl).1,(T9 h hl).2,rfl⟩
theorem Yr (g:Gn):2≤(gnE g).length:=by
 have:=Dm 2 g.k.toNat (Co g.k) ((Cz g).getD [])
 unfold gnE;omega
theorem yR {g h:Gn} (hg:gnW g=true) (hh:gnW h=true) (mg:g.mid) (mh:h.mid) (e:gnE g=gnE h):g=h:=by
 have h1:=G2 hg mg
 rw[e,G2 hh mh] at h1
 exact(Option.some.inj h1).symm
theorem fZ {g:Gn} (h:gnW g=true) (hs:g.mid):∃t:Tv,t.ok∧gnE g=t.enc:=by
 obtain⟨-,-,⟨c,h3⟩,-⟩:=(Ka g).1 h
 obtain⟨n,hn,hk⟩:=Nr h3
 exact⟨⟨2,g.k.toNat,Co g.k,(Cz g).getD []⟩,⟨by show(2:Nat)≤3;omega,by show g.k.toNat≤30;omega,by have:=hs.c;show((Cz g).getD []).length≤_;omega⟩,rfl⟩
theorem yS {g:Gn} (h:gnW g=true) (hs:g.mid):An (A9 (gnE g))=g:=by
 obtain⟨t,h1,h2,-⟩:=fV h hs
 rw[bT h1 (by omega)];exact h2
theorem yT {l:List Gn} (h:l.all gnW=true) (hs:gnsM l) (c n:Nat) (hc:c≤3) (hn:n≤30):∃ks,okT 21 (Ae c n true (l.map gnE).flatten) (.mk c n true [] ks)∧ks.map An=l:=by
 have hm:∀p∈l.map gnE,One 20 p∧p.length≤2147483647:=fun p hp=>by
  obtain⟨g,hg,rfl⟩:=List.mem_map.1 hp
  obtain⟨t,h1,-⟩:=fV (List.all_eq_true.1 h g hg) (hs.m g hg)
  have:=xV (hs.m g hg)
  exact⟨h1.1,by omega⟩
 have:=hs.e
 obtain⟨c1,c2⟩:=O3 (d:=20) (c:=c) (n:=n) (l.map gnE) hc hn hm (by omega)
 refine⟨_,⟨c1,c2⟩,?_⟩
 rw[List.map_map,List.map_map]
 conv=>rhs;rw[←List.map_id l]
 exact List.map_congr_left fun g hg=>by
  obtain⟨t,h1,h2,-⟩:=fV (List.all_eq_true.1 h g hg) (hs.m g hg)
  show An (trD 20 (gnE g))=g
  rw[h1.2];exact h2
theorem Uo {l:List Gn} (h:l.all gnW=true) (hs:gnsM l):(A9 (Cv l)).ks.map An=l:=by
 obtain⟨ks,h1,h2⟩:=yT h hs 0 16 (by omega) (by omega)
 unfold Cv
 rw[bT h1 (by omega)];exact h2
theorem uQ {l m:List Gn} (h1:l.all gnW=true) (h2:m.all gnW=true) (s1:gnsM l) (s2:gnsM m) (e:Cv l=Cv m):l=m:=by
 have a:=Uo h1 s1
 have b:=Uo h2 s2
 rw[e,b] at a
 exact a.symm
def gpS:List (List UInt8)→Option (List Gn)
 |[]=>some []
 |p::r=>match G6 p with
  |none=>none
  |some g=>(gpS r).map (g:: ·)
def gpL (b:List UInt8):List El→Option (List Gn)×Nat×Nat
 |[]=>(some [],0,0)
 |x::r=>match G6 (elO b x) with
  |none=>(none,(Mp (elO b x)).1,x.at'+(Mp (elO b x)).2)
  |some g=>match gpL b r with
   |(some gs,_)=>(some (g::gs),0,0)
   |(none,p)=>(none,p)
def Up (ms:List Gn):Option (List Gn)×Nat×Nat→Option (List Gn)×Nat×Nat
 |(some r,_)=>(some (ms++r),0,0)
 |(none,p)=>(none,p)
theorem Uq (b:List UInt8):∀l:List El,(gpL b l).1.isSome=true→(gpL b l).2=(0,0)
 |[],_=>rfl
 |x::r,h=>by
  rw[gpL] at h⊢
  cases hv:G6 (elO b x) with
  |none=>rw[hv] at h;cases h
  |some m=>
   rw[hv] at h
   cases hp:gpL b r with
   |mk o p=>rw[hp] at h;cases o with
    |none=>cases h
    |some ms=>rfl
theorem nT (b:List UInt8) (l:List El):Up [] (gpL b l)=gpL b l:=by
 have h:=Uq b l
 cases hp:gpL b l with
 |mk o p=>
  rw[hp] at h
  cases o with
  |none=>rfl
  |some ms=>have:=h rfl;simp only at this;subst this;rfl
theorem gA {b:List UInt8} {x:El} {r:List El} {m:Gn} (ms:List Gn) (hv:G6 (elO b x)=some m):Up ms (gpL b (x::r))=Up (ms++[m]) (gpL b r):=by
 rw[gpL,hv]
 cases hp:gpL b r with
 |mk o p=>cases o with
  |none=>rfl
  |some l=>simp[Up]
theorem Ys (b:List UInt8):∀l:List El,(gpL b l).1=gpS (l.map (elO b))
 |[]=>rfl
 |x::r=>by
  have ih:=Ys b r
  rw[gpL,List.map_cons,gpS]
  cases hv:G6 (elO b x) with
  |none=>rfl
  |some m=>
   simp only
   rw[←ih]
   cases hp:gpL b r with
   |mk o p=>cases o<;>rfl
theorem jQ {b:List UInt8}:∀{l:List El},(∀x∈l,x.at'≤x.stop∧x.stop≤b.length)→(gpL b l).1=none→(gpL b l).2.1≠0∧(gpL b l).2.2≤b.length
 |[],_,h=>by cases h
 |x::r,hx,h=>by
  have ih:=jQ (b:=b) (l:=r) fun y hy=>hx y (by simp[hy])
  rw[gpL] at h⊢
  cases hv:G6 (elO b x) with
  |none=>
   obtain⟨e1,e2⟩:=Il (elO b x)
   have:=T1 b x
   obtain⟨x1,x2⟩:=hx x (by simp)
   exact⟨e1,by show x.at'+_≤_;omega⟩
  |some m=>
   rw[hv] at h
   cases hp:gpL b r with
   |mk o p=>
    rw[hp] at h ih
    cases o with
    |none=>exact ih rfl
    |some ms=>cases h
theorem jR:∀{v:List Gn},v.all gnW=true→(∀m∈v,m.mid)→gpS (v.map gnE)=some v
 |[],_,_=>rfl
 |m::r,h,hs=>by
  rw[List.all_cons,Bool.and_eq_true] at h
  rw[List.map_cons,gpS,G2 h.1 (hs m (by simp)),jR h.2 fun k hk=>hs k (by simp[hk])];rfl
theorem jS:∀{ps:List (List UInt8)} {v:List Gn},(∀p∈ps,p.length≤800000)→gpS ps=some v→v.all gnW=true∧ps=v.map gnE
 |[],v,_,h=>by
  rw[gpS] at h
  obtain rfl:=Option.some.inj h
  exact⟨rfl,rfl⟩
 |p::r,v,hl,h=>by
  rw[gpS] at h
  cases hv:G6 p with
  |none=>rw[hv] at h;cases h
  |some m=>
   rw[hv] at h
   cases hr:gpS r with
   |none=>rw[hr] at h;cases h
   |some w=>
    rw[hr] at h
    obtain rfl:=Option.some.inj h
    obtain⟨k1,k2⟩:=T9 hv (hl p (by simp))
    obtain⟨k3,k4⟩:=jS (fun q hq=>hl q (by simp[hq])) hr
    exact⟨by rw[List.all_cons,k1,k3];rfl,by rw[List.map_cons,←k2,←k4]⟩
def bY (b:List UInt8):Option (List Gn)×Nat×Nat:=
 if(Ax b 0 16).code≠0 then(none,(Ax b 0 16).code,(Ax b 0 16).off) else if(Ax b 0 16).l=[] then(none,1,b.length) else gpL b (Ax b 0 16).l
def EQ:Option (List Gn)×Nat×Nat→AV
 |(some gs,_)=> .tup [.d (uP gs),erA 0 0]
 |(none,c,p)=> .tup [As,erA c p]
theorem jT (b:List UInt8) (hb:b.length≤800000):(∃v:List Gn,v≠[]∧v.all gnW=true∧b=Cv v∧bY b=(some v,0,0))∨(∃c o:Nat,c≠0∧o≤b.length∧bY b=(none,c,o)):=by
 unfold bY
 by_cases h1:(Ax b 0 16).code≠0
 ·rw[if_pos h1]
  exact .inr ⟨_,_,h1,J6 b 0 16,rfl⟩
 rw[if_neg h1]
 have h1':=Decidable.not_not.1 h1
 obtain⟨ts,t1,t2,-,-,-⟩:=Mi h1'
 have hlt:(Du ts).length≤800000:=by
  have:=congrArg List.length t2
  unfold Ae at this
  rw[Dy] at this;omega
 obtain⟨q,e1,e2⟩:=Fo (c:=0) (n:=16) ts (by omega) (by omega) t1 (by omega)
 rw[←t2] at e1 e2
 rw[e1]
 by_cases h2:els q ts=[]
 ·rw[if_pos h2];exact .inr ⟨1,b.length,by omega,Nat.le_refl _,rfl⟩
 rw[if_neg h2]
 have hf:=Ys b (els q ts)
 rw[e2] at hf
 have hoff:=jQ (b:=b) (l:=els q ts) fun x hx=>by
  have:=Fm (b:=b) (c:=0) (n:=16) (x:=x) (by rw[e1];exact hx)
  omega
 have hz:=Uq b (els q ts)
 show(∃v:List Gn,v≠[]∧v.all gnW=true∧b=Cv v∧gpL b (els q ts)=(some v,0,0))∨(∃c o:Nat,c≠0∧o≤b.length∧gpL b (els q ts)=(none,c,o))
 cases hp:gpL b (els q ts) with
 |mk o p=>
  rw[hp] at hf hoff hz
  obtain⟨c,p⟩:=p
  simp only at hf hoff hz
  cases o with
  |none=>exact .inr ⟨c,p,(hoff rfl).1,(hoff rfl).2,rfl⟩
  |some v=>
   obtain⟨k1,k2⟩:=jS (fun p hp=>by
    have:=G1 hp
    rw[←E6] at this;omega) hf.symm
   have hz:=hz rfl
   simp only[Prod.mk.injEq] at hz
   obtain⟨rfl,rfl⟩:=hz
   refine .inl ⟨v,?_,k1,?_,rfl⟩
   ·rintro rfl
    cases ts with
    |nil=>exact h2 rfl
    |cons t r=>simp at k2
   ·rw[t2]
    unfold Cv
    rw[E6,k2]
theorem CZ {v:List Gn} (h:v.all gnW=true) (hs:gnsM v):∃ts:List Tv,(∀t∈ts,t.ok)∧v.map gnE=ts.map Tv.enc:=
 Rm fun p hp=>by
  obtain⟨m,hm,rfl⟩:=List.mem_map.1 hp
  exact fZ (List.all_eq_true.1 h m hm) (hs.m m hm)
theorem Yt {v:List Gn} (h0:v≠[]) (h:v.all gnW=true) (hs:gnsM v):bY (Cv v)=(some v,0,0):=by
 obtain⟨ts,t1,t2⟩:=CZ h hs
 have hfl:(v.map gnE).flatten=Du ts:=by rw[t2,E6]
 have:=hs.e
 obtain⟨q,e1,e2⟩:=Fo (c:=0) (n:=16) ts (by omega) (by omega) t1 (by rw[←hfl];omega)
 have hf:=Ys (Ae 0 16 true (Du ts)) (els q ts)
 rw[e2,←t2,jR h hs.m] at hf
 unfold bY Cv
 rw[hfl,e1,if_neg (by simp),if_neg (by
  intro e
  have:=congrArg List.length e
  rw[Yb] at this
  have h3:=congrArg List.length t2
  rw[List.length_map,List.length_map] at h3
  exact h0 (List.eq_nil_of_length_eq_zero (by rw[h3];exact this)))]
 have hz:=Uq (Ae 0 16 true (Du ts)) (els q ts) (by rw[hf];rfl)
 exact Prod.ext hf hz
theorem bZ {v:List Gn} (h:(v.map gnE).flatten.length≤800000000):(v.map gnE).flatten.length+2≤(Cv v).length∧(Cv v).length≤(v.map gnE).flatten.length+6:=by
 have:=Dm 0 16 true (v.map gnE).flatten
 have:=Ak 0 16 true (v.map gnE).flatten (by omega)
 exact⟨by unfold Cv;omega,by unfold Cv;omega⟩
theorem jU {b:List UInt8} (h:G6 b=none) (hb:b.length≤3000):fX b (An (A9 b))=false:=by
 cases hr:fX b (An (A9 b)) with
 |false=>rfl
 |true=>
  unfold fX at hr
  rw[Bool.and_eq_true,beq_iff_eq] at hr
  have hm:=Hf hr.1 (by rw[hr.2];omega)
  have:=G2 hr.1 hm
  rw[hr.2,h] at this;cases this
theorem cA {b:List UInt8} {g:Gn} (hw:gnW g=true) (he:b=gnE g) (hb:b.length≤3000):An (A9 b)=g∧fX b g=true:=by
 have hm:=Hf hw (by rw[←he];omega)
 refine⟨by rw[he];exact yS hw hm,?_⟩
 unfold fX
 rw[hw,he,beq_self_eq_true];rfl
theorem uR {b:List UInt8} {c o:Nat} (h:bY b=(none,c,o)) (hb:b.length≤3000):Uh b ((A9 b).ks.map An)=false:=by
 cases hr:Uh b ((A9 b).ks.map An) with
 |false=>rfl
 |true=>
  generalize (A9 b).ks.map An=v at hr
  unfold Uh at hr
  rw[Bool.and_eq_true,beq_iff_eq,Ge] at hr
  obtain⟨⟨h0,h1⟩,h2⟩:=hr
  have hl:(v.map gnE).flatten.length≤400000:=by
   have:=Dm 0 16 true (v.map gnE).flatten
   have:=congrArg List.length h2
   unfold Cv at this;omega
  have:=Yt h0 h1 (Ul h1 hl)
  rw[h2,h] at this;cases this
theorem nU {b:List UInt8} {v:List Gn} (h0:v≠[]) (hw:v.all gnW=true) (he:b=Cv v) (hb:b.length≤3000):gnsM v∧(A9 b).ks.map An=v∧Uh b v=true:=by
 have hl:(v.map gnE).flatten.length≤400000:=by
  have:=Dm 0 16 true (v.map gnE).flatten
  have:=congrArg List.length he
  unfold Cv at this;omega
 have hm:=Ul hw hl
 refine⟨hm,by rw[he];exact Uo hw hm,?_⟩
 unfold Uh
 rw[Ge.2 ⟨h0,hw⟩,he,beq_self_eq_true];rfl
theorem Pe {p:Prop} (h:p:=by first|rfl|(simp only[AV.gives,AV.ren,AV.give,D.un,D.uns,Ah,Aj,List.nil_append,List.append_nil,List.cons_append,Am,A0,Cp,Bf,Ay,Ci,Cn,Cq,Bs,Cf,Bg,Kf,jN,jO,Eu,Ev];first|done|rfl)):p:=h
theorem Lt (b:List UInt8) (hb:b.length≤800000):Aa Tryz.prog 25 [.d (Ac false b)] (fun r=>r=EQ (bY b)):=by
 have hP:=L9 b 0 16 (by omega)
 have hin:=fun x=>Fm (b:=b) (c:=0) (n:=16) (x:=x)
 have hcn:=Np b 0 16
 unfold bY
 generalize Ax b 0 16=R at hP hin hcn⊢
 by_cases h1:R.code≠0
 ·rw[if_pos h1]
  rw[lrA,if_pos h1] at hP
  have gc:((R.code:Int) !=0)=true:=by rw[bne_iff_ne];omega
  generalize R.code=c at hP gc
  generalize R.off=o at hP
  refine acQ 60 Tryz.func25 rfl rfl fun _ _ _=> ?_
  (repeat'((conv=>whnf);first|refine NBr.pos asQ ?_|refine NCall.eq hP Pe ?_|refine NFact.go ⟨by decide+kernel,by kernel_rfl⟩ ?_));(all_goals(conv=>whnf))
  all_goals exact NEnd.eq leQ
 rw[if_neg h1]
 rw[lrA,if_neg h1] at hP
 generalize R.l=l at hP hin hcn⊢
 by_cases h2:l=[]
 ·subst h2
  rw[if_pos rfl]
  refine acQ 60 Tryz.func25 rfl rfl fun _ _ _=> ?_
  (repeat'((conv=>whnf);first|refine NBr.yes ?_|refine NBr.no ?_|refine NCall.eq hP Pe ?_));(all_goals(conv=>whnf))
  all_goals exact NEnd.eq leQ
 rw[if_neg h2]
 have gl:((l.length:Int)==0)=false:=by rw[beq_eq_false_iff_ne];intro h;exact h2 (List.eq_nil_of_length_eq_zero (by omega))
 have hd0:gpL b l=Up [] (gpL b (l.drop 0)):=by rw[nT,List.drop_zero]
 generalize hQ:gpL b l=q at hd0⊢
 refine acQ 60 Tryz.func25 rfl rfl fun _ _ _=> ?_
 (repeat'((conv=>whnf);first|refine NBr.neg asQ ?_|refine NBr.no ?_|refine NCall.eq hP Pe ?_));(all_goals(conv=>whnf))
 refine NLoop.goA [.s 6 9 28] (fun z:Nat×List Gn=>z.1≤l.length∧z.2.length≤z.1∧q=Up z.2 (gpL b (l.drop z.1))) (fun z=>l.length-z.1) (fun z=>⟨[(0,.d (Ac false b)),(3,.ptr 3 0),(6,Cf 6 9 28 fY z.2),(26,.d (mA l)),(27,iv l.length),(28,iv z.1)],[(3,[iv 0,iv 0])],[(6,(z.2.length,9,28))]⟩) (0,[]) ⟨by simp,by simp,hd0⟩ leQ ?_
 rintro⟨i,ms⟩ ⟨hi,hm,he⟩
 simp only at hi hm he
 by_cases hik:i<l.length
 ·have gi:decide ((i:Int)<l.length)=true:=decide_eq_true (by omega)
  obtain⟨x,hg⟩:∃p,l[i]?=some p:=⟨_,List.getElem?_eq_getElem hik⟩
  obtain⟨x1,x2,x3⟩:=hin x (List.mem_of_getElem? hg)
  have hel:=Rq b x
  have hO:=Ep (elO b x) (by omega)
  obtain⟨hc0,hof⟩:=Il (elO b x)
  rw[P3 hg] at he
  cases hp:G6 (elO b x) with
  |none=>
   have bad:q=(none,(Mp (elO b x)).1,x.at'+(Mp (elO b x)).2):=by rw[he,gpL,hp];rfl
   rw[bad]
   rw[hp] at hO
   generalize Mp (elO b x)=e at hO hc0 hof
   obtain⟨c,o⟩:=e
   simp only at hc0 hof
   have hO:Aa Tryz.prog 15 [.d (Ac false (elO b x))] (fun r=>r= .tup [gnQ gz,erA c o]):=hO
   have gc:((c:Int) !=0)=true:=by rw[bne_iff_ne];omega
   unfold elO at hO
   (repeat'((conv=>whnf);first|refine NBr.pos asQ ?_|refine NIdx.tab (fun _=>rfl) hg ?_|refine NSl.slice (x.at') (x.stop) ?_|refine NCall.eq hO Pe ?_|(with_reducible refine NInt.i64 ?_)|refine NFact.go ⟨by decide+kernel,by kernel_rfl⟩ ?_));(all_goals(conv=>whnf))
   all_goals exact NEnd.eq leQ
  |some g=>
   rw[gA ms hp] at he
   rw[hp] at hO
   have hO:Aa Tryz.prog 15 [.d (Ac false (elO b x))] (fun r=>r= .tup [gnQ g,erA 0 0]):=hO
   unfold elO at hO
   (repeat'((conv=>whnf);first|refine NBr.pos asQ ?_|refine NBr.no ?_|refine NIdx.tab (fun _=>rfl) hg ?_|refine NSl.slice (x.at') (x.stop) ?_|refine NCall.eq hO Pe ?_|refine NApp.one fY g ?_|(with_reducible refine NInt.i64 ?_)));(all_goals(conv=>whnf))
   refine⟨(i+1,ms++[g]),⟨by show i+1≤_;omega,by simp;omega,he⟩,by show l.length-(i+1)<l.length-i;omega,?_⟩
   exact leQ
 ·have gi:decide ((i:Int)<l.length)=false:=decide_eq_false (by omega)
  obtain rfl:i=l.length:=by omega
  rw[List.drop_length,gpL] at he
  have he':q=(some ms,0,0):=by rw[he];simp[Up]
  subst he'
  (repeat'((conv=>whnf);refine NBr.neg asQ ?_));(all_goals(conv=>whnf))
  all_goals exact NEnd.eq leQ
theorem Lu {b:Bool} {A B:Prop} (h:b=true) (ha:A):(bif b then A else B):=by subst h;exact ha
theorem nV (n:List (List Att)):(H2 n).fresh=true:=
 Vn 1 fun r _=>by
  show((fQ r).fresh&&true)=true
  rw[Bool.and_true]
  exact Vn 2 fun a _=>by
   show(true&&((Ac true a.val).fresh&&true))=true
   rw[Qn];rfl
theorem Wn (g:Gn) (c o:Nat):(AV.tup [gnQ g,erA c o]).fresh=true:=by
 show((true&&(true&&(true&&((Ac true g.by').fresh&&((H2 g.nm).fresh&&(true&&(true&&(true&&(true&&true)))))))))&&((true&&(true&&true))&&true))=true
 rw[Qn,nV];rfl
def P9 (i:Nat) (b:List UInt8):List UInt8:=(b.take i).map (fun x=>UInt8.ofNat (x.toNat+1))++b.drop i
theorem Yu (i:Nat) (b:List UInt8):(P9 i b).length=b.length:=by
 unfold P9
 rw[List.length_append,List.length_map,List.length_take,List.length_drop];omega
theorem gB {i:Nat} {b:List UInt8} {x:UInt8} (h:b[i]?=some x):(P9 i b)[i]?=some x:=by
 have hi:=(List.getElem?_eq_some_iff.1 h).1
 unfold P9
 rw[List.getElem?_append_right (by rw[List.length_map,List.length_take];omega),List.length_map,List.length_take,List.getElem?_drop,←h]
 congr 1;omega
theorem Yv {i:Nat} {b:List UInt8} {x:UInt8} (h:b[i]?=some x):(P9 i b).set i (UInt8.ofNat (x.toNat+1))=P9 (i+1) b:=by
 obtain⟨hi,he⟩:=List.getElem?_eq_some_iff.1 h
 unfold P9
 have hl:((b.take i).map fun x=>UInt8.ofNat (x.toNat+1)).length=i:=by rw[List.length_map,List.length_take];omega
 rw[List.set_append_right _ _ (by omega),hl,Nat.sub_self,List.take_succ_eq_append_getElem hi,List.map_append,he,List.append_assoc,List.drop_eq_getElem_cons hi]
 rfl
end Go.Proofs.YtngbfblmejjipaaGreatDoor
