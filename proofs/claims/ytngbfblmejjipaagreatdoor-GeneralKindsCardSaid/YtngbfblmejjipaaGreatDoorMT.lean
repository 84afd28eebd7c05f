/- MT: the texts Rz R13P GenS GenW, one behind the other. No condition but what each lemma says. -/
import Derived.Test.YtngbfblmejjipaaGreatDoorMS
import Derived.Test.YtngbfblmejjipaaGreatDoorMM
import Derived.Test.YtngbfblmejjipaaGreatDoorMI
import Derived.Test.YtngbfblmejjipaaGreatDoorMH
set_option maxRecDepth 100000
set_option maxHeartbeats 16000000
namespace Go.Proofs.YtngbfblmejjipaaGreatDoor
open Go.RowKit
theorem eS (k:Int) (c:List UInt8):(Dg k c).length≤4*c.length:=by
 unfold Dg
 split
 ·simp
 split
 ·unfold Df
  split
  ·omega
  ·have:=Km (Ae k).toNat c (c.length/(Ae k).toNat)
   have:=Nat.div_le_self c.length (Ae k).toNat
   omega
 ·simp
theorem H6:nmZ []:=⟨by simp,by simp,by simp⟩
def eT (g:Gn):List D:=[iD g.k,sD g.oid,sD g.tx,Ac false g.by',Ot g.nm,iD g.ak,sD g.av,iD g.pk,sD g.pv]
def oD (l:List Gn):D:=C5 true 9 eT l
theorem jQ (g:Gn):D.uns (eT g)=gnC g:=by simp only[eT,gnC,D.uns,Ai,D2,D.un]
theorem D.uns_app (a b:List D):D.uns (a++b)=D.uns a++D.uns b:=by
 induction a with
 |nil=>rfl
 |cons x r ih=>show D.un x::D.uns (r++b)=D.un x::(D.uns r++D.uns b);rw[ih]
theorem jR (l:List Gn):D.uns (l.flatMap eT)=l.flatMap gnC:=by
 induction l with
 |nil=>rfl
 |cons g r ih=>rw[List.flatMap_cons,D.uns_app,jQ,ih,List.flatMap_cons]
theorem jS (l:List Gn):(oD l).un=K5 l:=by
 show D.sl false l.length 9 (D.uns (l.flatMap eT))=_
 rw[jR];rfl
structure gnsZ (l:List Gn):Prop where
 n:l.length≤100000
 z:∀g∈l,Gn.zz g
 e:(l.map gnE).flatten.length≤90000000
theorem Dy (c n:Nat) (k:Bool) (l:List UInt8):l.length+2≤(Aj c n k l).length:=by
 have:=Z0 l.length
 unfold Aj;rw[M1];omega
theorem Ng {α:Type} (f:α→List UInt8) (k:Nat):∀{l:List α},(∀x∈l,k≤(f x).length)→k*l.length≤(l.map f).flatten.length
 |[],_=>by simp
 |x::r,h=>by
  have h1:=h x (by simp)
  have h2:=Ng f k (l:=r) fun y hy=>h y (by simp[hy])
  rw[List.map_cons,List.flatten_cons,List.length_append,List.length_cons,Nat.mul_add];omega
theorem nS {a:Att} (h:atV a=true) (hl:(atE a).length≤400000):a.sm∧4≤(atE a).length:=by
 obtain⟨h1,-⟩:=P7 h
 have h3:=Mw h1
 have h4:=Dy 0 6 false (Bj a.oid)
 have h5:=Dy 0 16 true (Aj 0 6 false (Bj a.oid)++a.val)
 rw[List.length_append] at h5
 have e:(atE a).length=(Aj 0 16 true (Aj 0 6 false (Bj a.oid)++a.val)).length:=rfl
 exact⟨⟨by omega,by omega⟩,by omega⟩
theorem mQ {r:List Att} (h:Gt r=true) (hl:(Cr r).length≤400000):rdnZ r∧4≤(Cr r).length:=by
 obtain⟨h0,h1,-⟩:=P8 h
 have h2:=Dy 0 17 true (r.map atE).flatten
 have e:(Cr r).length=(Aj 0 17 true (r.map atE).flatten).length:=rfl
 have h3:∀a∈r,a.sm∧4≤(atE a).length:=fun a ha=>by
  have:=Jq (List.mem_map_of_mem (f:=atE) ha)
  exact nS (List.all_eq_true.1 h1 a ha) (by omega)
 have h4:=Ng atE 4 fun a ha=>(h3 a ha).2
 have h5:1≤r.length:=by cases r with|nil=>exact absurd rfl h0|cons _ _=>simp
 exact⟨⟨by omega,fun a ha=>(h3 a ha).1,by omega⟩,by omega⟩
theorem nT {n:List (List Att)} (h:nmV n=true) (hl:(nmE n).length≤400000):nmZ n:=by
 have h2:=Dy 0 16 true (n.map Cr).flatten
 have e:(nmE n).length=(Aj 0 16 true (n.map Cr).flatten).length:=rfl
 have h3:∀r∈n,rdnZ r∧4≤(Cr r).length:=fun r hr=>by
  have:=Jq (List.mem_map_of_mem (f:=Cr) hr)
  exact mQ (List.all_eq_true.1 h r hr) (by omega)
 have h4:=Ng Cr 4 fun r hr=>(h3 r hr).2
 exact⟨by omega,fun r hr=>(h3 r hr).1,by omega⟩
theorem eU {k:Int} {l:List UInt8} (h:Af k l=true):l.length≤4*(chS k l).length:=by
 have:=eS k (chS k l)
 rwa[(Nd h).2.1] at this
theorem eV {k:Int} {l:List UInt8} (h:Af k l=true):l.length≤4*(txE k l).length:=by
 have h1:=eU h
 have h2:=Dy 0 k.toNat false (chS k l)
 unfold txE;omega
theorem jT {g:Gn} (h:gnW g=true) (hl:(gnE g).length≤400000):g.mid:=by
 obtain⟨h1,-,⟨c,h3⟩,h4⟩:=(Lj g).1 h
 have hc:c.length≤400000:=by
  have:=Dy 2 g.k.toNat (Cc g.k) ((Gk g).getD [])
  have e:(gnE g).length=(Aj 2 g.k.toNat (Cc g.k) ((Gk g).getD [])).length:=rfl
  rw[h3] at this e
  have e2:((some c).getD [])=c:=rfl
  rw[e2] at this e;omega
 refine⟨?_,by rw[h3];show c.length≤_;omega⟩
 obtain⟨m,hm,hk⟩:=Nc h3
 obtain⟨k,oid,tx,by',nm,ak,av,pk,pv⟩:=g
 rw[Ox] at h1
 obtain⟨a1,a2,a3,a4,a5⟩:=h1
 simp only at hk a1 a2 a3 a4 a5
 subst hk
 unfold Gk at h3
 simp only at h3
 have l0:([]:List UInt8).length=0:=rfl
 rcases(by omega:m=0∨m=1∨m=2∨m=3∨m=4∨m=5∨m=6∨m=7∨m=8) with rfl|rfl|rfl|rfl|rfl|rfl|rfl|rfl|rfl
 ·obtain rfl:tx=[]:=by simpa using a2
  obtain rfl:nm=[]:=by simpa using a4
  obtain⟨⟨rfl,rfl⟩,rfl,rfl⟩:(ak=0∧av=[])∧pk=0∧pv=[]:=by simpa using a5
  rw[if_pos (by rfl)] at h3
  by_cases ho:Ff oid=true
  ·rw[if_pos ho] at h3
   obtain rfl:=Option.some.inj h3
   have:=Mw ho
   have:=Dy 0 6 false (Bj oid)
   have:=Dy 2 0 true by'
   rw[List.length_append] at hc
   exact⟨by show oid.length≤_;omega,by simp,by show by'.length≤_;omega,H6,by simp,by simp⟩
  ·rw[if_neg ho] at h3;cases h3
 case inr.inr.inr.inl=>
  obtain rfl:oid=[]:=by simpa using a1
  obtain rfl:tx=[]:=by simpa using a2
  obtain rfl:nm=[]:=by simpa using a4
  obtain⟨⟨rfl,rfl⟩,rfl,rfl⟩:(ak=0∧av=[])∧pk=0∧pv=[]:=by simpa using a5
  rw[if_neg (by decide),if_neg (by decide),if_pos (by decide)] at h3
  obtain rfl:=Option.some.inj h3
  exact⟨by simp,by simp,by show by'.length≤_;omega,H6,by simp,by simp⟩
 case inr.inr.inr.inr.inl=>
  obtain rfl:oid=[]:=by simpa using a1
  obtain rfl:tx=[]:=by simpa using a2
  obtain rfl:by'=[]:=by simpa using a3
  obtain⟨⟨rfl,rfl⟩,rfl,rfl⟩:(ak=0∧av=[])∧pk=0∧pv=[]:=by simpa using a5
  rw[if_neg (by decide),if_neg (by decide),if_neg (by decide),if_pos (by rfl)] at h3
  by_cases ho:nmV nm=true
  ·rw[if_pos ho] at h3
   obtain rfl:=Option.some.inj h3
   exact⟨by simp,by simp,by simp,nT ho hc,by simp,by simp⟩
  ·rw[if_neg ho] at h3;cases h3
 case inr.inr.inr.inr.inr.inl=>
  obtain rfl:oid=[]:=by simpa using a1
  obtain rfl:tx=[]:=by simpa using a2
  obtain rfl:by'=[]:=by simpa using a3
  obtain rfl:nm=[]:=by simpa using a4
  rw[if_neg (by decide),if_neg (by decide),if_neg (by decide),if_neg (by decide),if_pos (by rfl)] at h3
  unfold Zw at h3
  simp only at h3
  by_cases hh:((zT ak av||Af ak av)&&Af pk pv)=true
  ·rw[if_pos hh] at h3
   obtain rfl:=Option.some.inj h3
   rw[Bool.and_eq_true,Bool.or_eq_true] at hh
   have k1:=eV hh.2
   have k2:=Dy 2 1 true (txE pk pv)
   rw[List.length_append] at hc
   refine⟨by simp,by simp,by simp,H6,?_,by show pv.length≤_;omega⟩
   show av.length≤_
   by_cases hz:zT ak av=true
   ·rw[(Vk.1 hz).2];simp
   ·rw[if_neg hz] at hc
    have k3:=eV (hh.1.resolve_left hz)
    have k4:=Dy 2 0 true (txE ak av)
    omega
  ·rw[if_neg hh] at h3;cases h3
 case inr.inr.inr.inr.inr.inr.inr.inl=>
  obtain rfl:oid=[]:=by simpa using a1
  obtain rfl:tx=[]:=by simpa using a2
  obtain rfl:nm=[]:=by simpa using a4
  obtain⟨⟨rfl,rfl⟩,rfl,rfl⟩:(ak=0∧av=[])∧pk=0∧pv=[]:=by simpa using a5
  rw[if_neg (by decide),if_neg (by decide),if_pos (by decide)] at h3
  obtain rfl:=Option.some.inj h3
  exact⟨by simp,by simp,by show by'.length≤_;omega,H6,by simp,by simp⟩
 case inr.inr.inr.inr.inr.inr.inr.inr=>
  obtain rfl:tx=[]:=by simpa using a2
  obtain rfl:by'=[]:=by simpa using a3
  obtain rfl:nm=[]:=by simpa using a4
  obtain⟨⟨rfl,rfl⟩,rfl,rfl⟩:(ak=0∧av=[])∧pk=0∧pv=[]:=by simpa using a5
  rw[if_neg (by decide),if_neg (by decide),if_neg (by decide),if_neg (by decide),if_neg (by decide),if_pos (by rfl)] at h3
  by_cases ho:Ff oid=true
  ·rw[if_pos ho] at h3
   obtain rfl:=Option.some.inj h3
   have:=Mw ho
   exact⟨by show oid.length≤_;omega,by simp,by simp,H6,by simp,by simp⟩
  ·rw[if_neg ho] at h3;cases h3
 all_goals
  obtain rfl:oid=[]:=by simpa using a1
  obtain rfl:by'=[]:=by simpa using a3
  obtain rfl:nm=[]:=by simpa using a4
  obtain⟨⟨rfl,rfl⟩,rfl,rfl⟩:(ak=0∧av=[])∧pk=0∧pv=[]:=by simpa using a5
  rw[if_neg (by decide),if_pos (by decide)] at h3
  by_cases ho:Af 22 tx=true
  ·rw[if_pos ho] at h3
   obtain rfl:=Option.some.inj h3
   have:=eU ho
   exact⟨by simp,by show tx.length≤_;omega,by simp,H6,by simp,by simp⟩
  ·rw[if_neg ho] at h3;cases h3
def eW (g:Gn):List D:=[iD g.k,sD g.oid,sD g.tx,Ac true g.by',Ot g.nm,iD g.ak,sD g.av,iD g.pk,sD g.pv]
def oE (l:List Gn):D:=C5 true 9 eW l
theorem jU (g:Gn):D.uns (eW g)=gnC g:=by simp only[eW,gnC,D.uns,Ai,D2,D.un]
theorem jV (l:List Gn):D.uns (l.flatMap eW)=l.flatMap gnC:=by
 induction l with
 |nil=>rfl
 |cons g r ih=>rw[List.flatMap_cons,D.uns_app,jU,ih,List.flatMap_cons]
theorem jW (l:List Gn):(oE l).un=K5 l:=by
 show D.sl false l.length 9 (D.uns (l.flatMap eW))=_
 rw[jV];rfl
theorem Z1 (g:Gn) (h:g.mid):Ab Tryz.prog 14 [gnA g] (fun r=>r=mJ (gnW g) (gnE g)):=by
 have hM:=Vi g h.s h.c
 rwa[mO h] at hM
end Go.Proofs.YtngbfblmejjipaaGreatDoor
