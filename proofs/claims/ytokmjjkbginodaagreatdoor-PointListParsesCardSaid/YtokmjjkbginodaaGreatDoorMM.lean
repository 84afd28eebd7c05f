/- MM: the texts Link MulR MulP MulQ MulS MulC MulT MulL MulI MulJ MulK MulW MulX, one behind the other. No condition but what each lemma says. -/
import Derived.Test.YtokmjjkbginodaaGreatDoorMJ
import Derived.Test.YtokmjjkbginodaaGreatDoorMH
set_option maxRecDepth 100000
set_option maxHeartbeats 16000000
namespace Go.Proofs.YtokmjjkbginodaaGreatDoor
open Go.RowKit
theorem lQ (x:S) (r:SR):(V6 x r).code=r.code:=by
 by_cases h:r.code=0
 ·rw[Qt h,h]
 ·rw[N1 h]
theorem lR (sz:Nat) (x:Tr) (r:TR):(Y1 sz x r).code=r.code:=by
 by_cases h:r.code=0
 ·rw[K9 h,h]
 ·rw[Ix h];rfl
def Agr (rd:Nat→SR) (rt:List UInt8→TR) (b:List UInt8) (en:Nat):Prop:=∀p,p≤en→(rd p).code=(rt ((b.drop p).take (en-p))).code∧∀s t sz,rd p=⟨[s],0,0⟩→rt ((b.drop p).take (en-p))=⟨[t],sz,0,0⟩→s.stop=p+sz
theorem uB {rd:Nat→SR} {rt:List UInt8→TR} {b:List UInt8} {en:Nat} (hen:en≤b.length) (hs:Rds rd en) (ht:RdT rt) (ha:Agr rd rt b en):∀(f p:Nat),p≤en→(Hj rd en f p).code=(kT rt f ((b.drop p).take (en-p))).code:=by
 intro f
 induction f with
 |zero=>intro p _;rfl
 |succ f ih=>
  intro p hp
  have hl:((b.drop p).take (en-p)).length=en-p:=by rw[Al,Az];omega
  by_cases h3:p<en
  ·have h0:((b.drop p).take (en-p)).length≠0:=by omega
   obtain⟨a1,a2⟩:=ha p hp
   by_cases h4:(rd p).code=0
   ·obtain⟨s,e1,e2,e3⟩:=(hs p hp).1 h4
    obtain⟨t,sz,q1,q2,q3⟩:=(ht _).1 (a1▸h4)
    have hst:=a2 s t sz e1 q1
    rw[K6 h3 e1,aY h0 q1,lQ,lR,hst,ih (p+sz) (by omega),List.drop_take,List.drop_drop,show en-p-sz=en-(p+sz) by omega]
   ·rw[M1 h3 h4,oQ h0 (a1▸h4)];exact a1
  ·rw[Hv h3,R0 (by omega)]
theorem uC (b:List UInt8):∀(d en:Nat),en≤b.length→Agr (fun p=>B4 b d p en) (rT d) b en:=by
 intro d
 induction d with
 |zero=>intro en _ p _;exact⟨rfl,fun s t sz h=>by simp[B4,SR.bad] at h⟩
 |succ d ih=>
  intro en hen p hp
  have hl:((b.drop p).take (en-p)).length=en-p:=by rw[Al,Az];omega
  have hB:=Em ((b.drop p).take (en-p))
  rw[hl] at hB
  simp only[B4,rT]
  generalize hh:rhS ((b.drop p).take (en-p))=h at hB⊢
  obtain⟨c1,c2,c3,c4,c5,c6,c7⟩:=hB
  unfold K7 rTH
  by_cases k1:h.code≠0
  ·rw[if_pos k1,if_pos k1]
   exact⟨rfl,fun s t sz h'=>by simp[SR.bad] at h'⟩
  rw[if_neg k1,if_neg k1,hl]
  by_cases k2:en-p<h.size+h.len
  ·rw[if_pos k2,if_pos k2]
   exact⟨rfl,fun s t sz h'=>by simp[SR.bad] at h'⟩
  rw[if_neg k2,if_neg k2]
  by_cases k3:h.k=false
  ·rw[if_pos k3,if_pos k3]
   refine⟨rfl,fun s t sz h1 h2=> ?_⟩
   simp only[SR.mk.injEq,TR.mk.injEq,List.cons.injEq,and_true] at h1 h2
   rw[←h1,←h2.2];simp only[S.stop];omega
  rw[if_neg k3,if_neg k3]
  have e1:(((b.drop p).take (en-p)).drop h.size).take h.len=(b.drop (p+h.size)).take (p+h.size+h.len-(p+h.size)):=by
   rw[List.drop_take,List.drop_drop,List.take_take]
   congr 1;omega
  have hK:(Dz (B4 b d) (p+h.size) (p+h.size+h.len)).code=(Ci (rT d) ((((b.drop p).take (en-p)).drop h.size).take h.len)).code:=by
   rw[e1,Ci,show((b.drop (p+h.size)).take (p+h.size+h.len-(p+h.size))).length=p+h.size+h.len-(p+h.size) by rw[Al,Az];omega]
   exact uB (by omega) (Gv b d _ (by omega)) (Ow d) (ih (p+h.size+h.len) (by omega)) _ (p+h.size) (by omega)
  by_cases k4:(Dz (B4 b d) (p+h.size) (p+h.size+h.len)).code≠0
  ·rw[if_pos k4,if_pos (hK▸k4)]
   exact⟨hK,fun s t sz h'=>by simp[SR.bad] at h'⟩
  ·rw[if_neg k4,if_neg (hK▸k4)]
   refine⟨rfl,fun s t sz h1 h2=> ?_⟩
   simp only[SR.mk.injEq,TR.mk.injEq,List.cons.injEq,and_true] at h1 h2
   rw[←h1,←h2.2];simp only[S.stop];omega
theorem lS (b:List UInt8):(Ez b).code=(Db 16 b).code:=by
 have hA:=uC b 16 b.length (Nat.le_refl _) 0 (Nat.zero_le _)
 rw[List.drop_zero,Nat.sub_zero,List.take_length] at hA
 obtain⟨a1,a2⟩:=hA
 have hF:=Gv b 16 b.length (by omega) 0 (by omega)
 dsimp only at hF a1 a2
 have hT:=Ow 16 b
 unfold Ez Db
 by_cases h:(B4 b 16 0 b.length).code=0
 ·obtain⟨s,e1,e2,e3⟩:=hF.1 h
  obtain⟨t,sz,q1,q2,q3⟩:=hT.1 (a1▸h)
  have hst:=a2 s t sz e1 q1
  rw[e1,q1]
  by_cases h3:s.stop<b.length
  ·rw[H7 h3,M3 (by omega)];rfl
  ·rw[K8 h3,N3 (by omega)]
 ·have h':=hT.2 (a1▸h)
  have h1:B4 b 16 0 b.length=⟨[],(B4 b 16 0 b.length).code,(B4 b 16 0 b.length).off⟩:=by
   have:=(hF.2 h).2
   generalize B4 b 16 0 b.length=r at this⊢
   obtain⟨l,c,o⟩:=r
   simp only at this;rw[this]
  have h2:rT 16 b=⟨[],0,(rT 16 b).code,(rT 16 b).off⟩:=by
   have h5:=h'.2.1;have h6:=h'.2.2.1
   generalize rT 16 b=r at h5 h6⊢
   obtain⟨l,z,c,o⟩:=r
   simp only at h5 h6;rw[h5,h6]
  rw[h1,h2,Jb,Ph]
  simp only[SR.bad,TR.bad]
  rw[a1]
theorem oU (b:List UInt8):Er b=fO b:=by unfold Er fO;rw[lS]
theorem Pj (b:List UInt8) (hb:b.length≤1000000000):Ab Tryz.prog 168 [.d (Af false b)] (fun r=>r=bv (Er b)):=by rw[oU];exact tZ b hb
def AF (ps:List (List UInt8)):D:=Fb true 1 Dn ps
theorem Y4 (ps:List (List UInt8)):(AF ps).un=Ds ps:=by
 show D.sl false ps.length 1 (D.uns (ps.flatMap Dn))=_
 rw[Bf];rfl
theorem D4 {b:List UInt8} {c n:Nat} {x:El} (h:x∈(A6 b c n).l):x.at'+2≤x.body∧x.body≤x.stop∧x.stop≤b.length:=by
 have hF:=D9 b
 unfold A6 at h
 split at h
 ·cases h
 ·split at h
  ·cases h
  ·have:=eL hF.2.2.2.2.2.1 h
   omega
theorem Jc (b:List UInt8) (c n:Nat):(A6 b c n).l.length≤b.length:=by
 have hF:=D9 b
 unfold A6
 split
 ·exact Nat.zero_le _
 ·split
  ·exact Nat.zero_le _
  ·have:=Yn (b:=b) hF.2.2.2.2.2.1 ((Bj b).x.stop-(Bj b).x.body) (Bj b).x.body
   exact Nat.le_trans this (by omega)
theorem Fe {α β:Type} (f:α→β) {l:List α} {i:Nat} {x:α} (h:l[i]?=some x):(l.take (i+1)).map f=(l.take i).map f++[f x]:=by
 obtain⟨hlt,he⟩:=Aw.1 h
 rw[List.take_succ_eq_append_getElem hlt,he,List.map_append];rfl
theorem uD {b:List UInt8} {en:Nat} (hen:en≤b.length):∀(f p:Nat),p≤en→(Ep b en f p).off≤b.length:=by
 intro f
 induction f with
 |zero=>intro p _;exact Nat.zero_le _
 |succ f ih=>
  intro p hp
  rw[Ep]
  have hF:=Gt b p en hp hen
  split
  ·split
   ·show(nxS b p en).off≤_
    have:=hF.2.2.1
    omega
   ·rename_i h1
    have:=hF.1 (by omega)
    split
    ·exact ih _ (by omega)
    ·exact Nat.zero_le _
  ·exact Nat.zero_le _
theorem Hx (b:List UInt8) (c n:Nat):(A6 b c n).off≤b.length:=by
 have hF:=D9 b
 unfold A6
 split
 ·exact hF.2.2.1
 ·split
  ·exact Nat.zero_le _
  ·exact uD hF.2.2.2.2.2.1 _ _ hF.2.2.2.2.2.2
def bod (b:List UInt8) (x:El):List UInt8:=(b.drop x.body).take (x.stop-x.body)
def fQ (b:List UInt8):LR→Option (List UInt8×List UInt8)
 |⟨[x,y],0,_⟩=>if x.isB 0 6 false=true∧odC (bod b x)=0 then some (odT (bod b x),elO b y) else none
 |_=>none
def fR (b:List UInt8):Option (List UInt8×List UInt8):=fQ b (A6 b 0 16)
theorem bA {b:List UInt8} {r:LR} (h:r.code≠0∨r.l.length≠2):fQ b r=none:=by
 obtain⟨l,c,o⟩:=r
 match l,c with
 |[x,y],0=>rcases h with h|h<;>simp at h
 |[x,y],c+1=>rfl
 |[],0=>rfl
 |[],c+1=>rfl
 |[x],0=>rfl
 |[x],c+1=>rfl
 |x::y::z::r,0=>rfl
 |x::y::z::r,c+1=>rfl
theorem N5 {α:Type} {l:List α} {i:Nat} {x:α} (h:l[i]?=some x):l.drop i=x::l.drop (i+1):=by
 obtain⟨hlt,he⟩:=Aw.1 h
 rw[List.drop_eq_getElem_cons hlt,he]
theorem Tx {α:Type} {a b:List α} {i:Nat} {x:α} (h:a.take i=b.take i) (h1:a[i]?=some x) (h2:b[i]?=some x):a.take (i+1)=b.take (i+1):=by
 obtain⟨l1,e1⟩:=Aw.1 h1
 obtain⟨l2,e2⟩:=Aw.1 h2
 rw[List.take_succ_eq_append_getElem l1,List.take_succ_eq_append_getElem l2,h,e1,e2]
theorem oV {α:Type} {a b:List α} {i:Nat} {x y:α} (h1:a[i]?=some x) (h2:b[i]?=some y) (h:x≠y):a≠b:=fun e=>by
 subst e;rw[h1] at h2;exact h (Option.some.inj h2)
theorem bB {α:Type} {a b:List α} {i:Nat} (h:a.take i=b.take i) (hi:¬(i<a.length∧i<b.length)) (_:i≤a.length) (_:i≤b.length) (he:a.length=b.length):a=b:=by
 have h1:a.take i=a:=List.take_of_length_le (by omega)
 have h2:b.take i=b:=List.take_of_length_le (by omega)
 rw[←h1,←h2,h]
structure Mu.md (m:Mu):Prop where
 o:m.oid.length≤1000000000
 n:m.vs.length≤1000000
 v:∀p∈m.vs,p.length≤1000000000
deriving instance DecidableEq for Mu
def RdE (rd:List UInt8→TR):Prop:=∀l t sz,rd l=⟨[t],sz,0,0⟩→t.ok∧t.enc=l.take sz
theorem AG {rd:List UInt8→TR} (hr:RdT rd) (he:RdE rd):∀(f:Nat) (l:List UInt8),l.length≤f→(Ci rd l).code=0→Tr.oks (Ci rd l).l∧Tr.encs (Ci rd l).l=l:=by
 intro f
 induction f with
 |zero=>
  intro l h _
  have:l=[]:=List.eq_nil_of_length_eq_zero (by omega)
  subst this
  rw[Ff rfl,Tr.oks,Tr.encs]
  exact⟨trivial,rfl⟩
 |succ f ih=>
  intro l h h0
  by_cases h3:l.length=0
  ·have:l=[]:=List.eq_nil_of_length_eq_zero h3
   subst this
   rw[Ff rfl,Tr.oks,Tr.encs]
   exact⟨trivial,rfl⟩
  ·by_cases h4:(rd l).code=0
   ·obtain⟨t,sz,e1,e2,e3⟩:=(hr l).1 h4
    obtain⟨k1,k2⟩:=he l t sz e1
    have hs:=Hw hr h3 e1
    rw[hs] at h0⊢
    have h5:(Ci rd (l.drop sz)).code=0:=by
     by_cases h6:(Ci rd (l.drop sz)).code=0
     ·exact h6
     ·rw[Ix h6] at h0;exact absurd h0 h6
    obtain⟨q1,q2⟩:=ih (l.drop sz) (by rw[Az];omega) h5
    rw[K9 h5,Tr.oks,Tr.encs,q2,k2,List.take_append_drop]
    exact⟨⟨k1,q1⟩,rfl⟩
   ·rw[N2 h3 h4] at h0;exact absurd h0 h4
theorem AH:∀d,RdE (rT d):=by
 intro d
 induction d with
 |zero=>intro l t sz h;simp[rT,TR.bad] at h
 |succ d ih=>
  intro l t sz h
  have hB:=Em l
  have hI:=oR (l:=l)
  simp only[rT] at h
  generalize hh:rhS l=q at hB hI h
  obtain⟨c1,c2,c3,c4,c5,c6,c7⟩:=hB
  unfold rTH at h
  by_cases k1:q.code≠0
  ·rw[if_pos k1] at h;simp[TR.bad] at h
  rw[if_neg k1] at h
  by_cases k2:l.length<q.size+q.len
  ·rw[if_pos k2] at h;simp[TR.bad] at h
  rw[if_neg k2] at h
  have hI':=hI (Decidable.not_not.1 k1) (by omega)
  by_cases k3:q.k=false
  ·rw[if_pos k3] at h
   simp only[TR.mk.injEq,List.cons.injEq,and_true] at h
   obtain⟨rfl,rfl⟩:=h
   rw[hI',k3,Tr.ok,Tr.enc,Tr.encs,Tr.oks,List.append_nil]
   exact⟨⟨by omega,by omega,trivial⟩,rfl⟩
  rw[if_neg k3] at h
  by_cases k4:(Ci (rT d) ((l.drop q.size).take q.len)).code≠0
  ·rw[if_pos k4] at h;simp[TR.bad] at h
  rw[if_neg k4] at h
  simp only[TR.mk.injEq,List.cons.injEq,and_true] at h
  obtain⟨rfl,rfl⟩:=h
  obtain⟨q1,q2⟩:=AG (Ow d) ih _ _ (Nat.le_refl _) (Decidable.not_not.1 k4)
  have kt:q.k=true:=by cases hk:q.k with|true=>rfl|false=>exact absurd hk k3
  rw[hI',kt,Tr.ok,Tr.enc,q2,List.nil_append]
  exact⟨⟨by omega,by omega,q1⟩,rfl⟩
def LY (rd rd':List UInt8→TR):Prop:=∀l,(rd l).code=0→rd' l=rd l
theorem uE {rd rd':List UInt8→TR} (hr:RdT rd) (hr':RdT rd') (hm:LY rd rd'):∀(f:Nat) (l:List UInt8),l.length≤f→(Ci rd l).code=0→Ci rd' l=Ci rd l:=by
 intro f
 induction f with
 |zero=>intro l h _;rw[Ff (by omega),Ff (by omega)]
 |succ f ih=>
  intro l h h0
  by_cases h3:l.length=0
  ·rw[Ff h3,Ff h3]
  ·by_cases h4:(rd l).code=0
   ·obtain⟨t,sz,e1,e2,e3⟩:=(hr l).1 h4
    have hs:=Hw hr h3 e1
    have hs':=Hw hr' h3 ((hm l h4).trans e1)
    rw[hs] at h0
    have h5:(Ci rd (l.drop sz)).code=0:=by
     by_cases h6:(Ci rd (l.drop sz)).code=0
     ·exact h6
     ·rw[Ix h6] at h0;exact absurd h0 h6
    rw[hs,hs',ih (l.drop sz) (by rw[Az];omega) h5]
   ·rw[N2 h3 h4] at h0;exact absurd h0 h4
theorem GJ:∀d,LY (rT d) (rT (d+1)):=by
 intro d
 induction d with
 |zero=>intro l h;simp[rT,TR.bad] at h
 |succ d ih=>
  intro l h
  rw[rT] at h⊢
  rw[rT]
  generalize rhS l=q at h⊢
  unfold rTH at h⊢
  by_cases k1:q.code≠0
  ·rw[if_pos k1] at h;exact absurd h k1
  rw[if_neg k1] at h⊢
  rw[if_neg k1]
  by_cases k2:l.length<q.size+q.len
  ·rw[if_pos k2] at h;cases h
  rw[if_neg k2] at h⊢
  rw[if_neg k2]
  by_cases k3:q.k=false
  ·rw[if_pos k3,if_pos k3]
  rw[if_neg k3] at h⊢
  rw[if_neg k3]
  by_cases k4:(Ci (rT d) ((l.drop q.size).take q.len)).code≠0
  ·rw[if_pos k4] at h;exact absurd h k4
  have hk:=uE (Ow d) (Ow (d+1)) ih _ _ (Nat.le_refl _) (Decidable.not_not.1 k4)
  rw[hk]
theorem GK {d e:Nat} (h:d≤e):LY (rT d) (rT e):=by
 obtain⟨k,rfl⟩:=Nat.exists_eq_add_of_le h
 induction k with
 |zero=>intro l _;rfl
 |succ k ih=>
  intro l h0
  have h1:=ih (by omega) l h0
  exact(GJ (d+k) l (by rw[h1];exact h0)).trans h1
def trD (d:Nat) (p:List UInt8):Tr:=(rT d p).l.headD .zero
def One (d:Nat) (p:List UInt8):Prop:=rT d p=⟨[trD d p],p.length,0,0⟩
theorem bC {d:Nat} {p:List UInt8} {t:Tr} (h:rT d p=⟨[t],p.length,0,0⟩):One d p∧trD d p=t:=by
 have:trD d p=t:=by unfold trD;rw[h];rfl
 exact⟨by unfold One;rw[this];exact h,this⟩
theorem One.enc {d:Nat} {p:List UInt8} (h:One d p):(trD d p).ok∧(trD d p).enc=p:=by
 have:=AH d p _ _ h
 rw[List.take_length] at this;exact this
theorem One.mono {d e:Nat} {p:List UInt8} (h:One d p) (hd:d≤e):One e p∧trD e p=trD d p:=by
 have h0:(rT d p).code=0:=by rw[h]
 exact bC ((GK hd p h0).trans h)
theorem M5 {p:List UInt8} (h:Er p=true):One 16 p:=by
 rw[oU] at h
 unfold fO at h
 obtain⟨t,-,h2⟩:=(Ox 16 p).1 (by simpa using h)
 exact(bC h2).1
theorem One.tv {d:Nat} {p:List UInt8} (h:One d p) (hl:p.length≤2147483647):∃t:Tv,t.ok∧p=t.enc:=by
 obtain⟨h1,h2⟩:=h.enc
 generalize trD d p=t at h1 h2
 obtain⟨c,n,k,b,ks⟩:=t
 rw[Tr.ok] at h1
 rw[Tr.enc] at h2
 refine⟨⟨c,n,k,b++Tr.encs ks⟩,⟨h1.1,h1.2.1,?_⟩,h2.symm⟩
 have:=congrArg List.length h2
 rw[E0] at this
 show(b++Tr.encs ks).length≤_
 omega
theorem One.more {d:Nat} {p:List UInt8} (h:One d p) (hl:p.length≤2147483647) (r:List UInt8):rT d (p++r)=⟨[trD d p],p.length,0,0⟩:=by
 obtain⟨t,ht,he⟩:=h.tv hl
 have hr:rhS (p++r)=rhS p:=by
  rw[he,Tv.rh ht]
  have:=Tv.rh ht []
  rw[List.append_nil] at this
  exact this.symm
 have hp:rhS p=⟨t.c,t.n,t.k,t.v.length,t.hd,0,0⟩:=by
  have:=Tv.rh ht []
  rw[List.append_nil,←he] at this;exact this
 have hlen:p.length=t.hd+t.v.length:=by rw[he];exact t.len
 cases d with
 |zero=>unfold One at h;simp[rT,TR.bad] at h
 |succ d=>
  unfold One at h
  rw[←h,rT,rT,hr,hp]
  unfold rTH
  simp only
  have e1:((p++r).drop t.hd).take t.v.length=(p.drop t.hd).take t.v.length:=by
   rw[List.drop_append_of_le_length (by omega),List.take_append_of_le_length (by rw[Az];omega)]
  rw[if_neg (by simp),if_neg (show¬(p++r).length<t.hd+t.v.length by rw[Ap];omega),if_neg (show¬p.length<t.hd+t.v.length by omega),e1]
  exact(if_neg (fun h=>h rfl)).symm
theorem fS (d:Nat):∀(ps:List (List UInt8)),(∀p∈ps,One d p∧p.length≤2147483647)→Ci (rT d) ps.flatten=⟨ps.map (trD d),0,0,0⟩
 |[],_=>Ff rfl
 |p::ps,h=>by
  obtain⟨h1,h2⟩:=h p (by simp)
  have hm:=h1.more h2 ps.flatten
  have ih:=fS d ps fun q hq=>h q (by simp[hq])
  have hpos:p.length≠0:=by
   obtain⟨t,sz,e1,e2,e3⟩:=(Ow d p).1 (by rw[h1])
   omega
  rw[List.flatten_cons,Hw (Ow d) (by rw[Ap];omega) hm,List.drop_left,ih,K9 rfl]
  rfl
theorem Im {d c n:Nat} (ps:List (List UInt8)) (hc:c≤3) (hn:n≤30) (h:∀p∈ps,One d p∧p.length≤2147483647) (hl:ps.flatten.length≤2147483600):One (d+1) (Ah c n true ps.flatten)∧trD (d+1) (Ah c n true ps.flatten)= .mk c n true [] (ps.map (trD d)):=by
 obtain⟨t,ht⟩:∃t:Tv,t=⟨c,n,true,ps.flatten⟩:=⟨_,rfl⟩
 have hOk:t.ok:=by subst ht;exact⟨hc,hn,by show ps.flatten.length≤_;omega⟩
 have he:Ah c n true ps.flatten=t.enc:=by subst ht;rfl
 have hv:t.v=ps.flatten:=by subst ht;rfl
 have hr:=Tv.rh hOk []
 rw[List.append_nil] at hr
 have hlen:=t.len
 refine bC ?_
 rw[he,rT,hr]
 unfold rTH
 simp only
 rw[if_neg (by simp),if_neg (by omega),if_neg (by subst ht;simp),t.body,List.take_length,hv,fS d ps h,if_neg (by simp)]
 subst ht
 simp only[TR.mk.injEq,and_true,true_and]
 rw[hlen]
theorem Wc {d c n:Nat} (l:List UInt8) (hc:c≤3) (hn:n≤30) (hl:l.length≤2147483600):One (d+1) (Ah c n false l)∧trD (d+1) (Ah c n false l)= .mk c n false l []:=by
 obtain⟨t,ht⟩:∃t:Tv,t=⟨c,n,false,l⟩:=⟨_,rfl⟩
 have hOk:t.ok:=by subst ht;exact⟨hc,hn,by show l.length≤_;omega⟩
 have he:Ah c n false l=t.enc:=by subst ht;rfl
 have hv:t.v=l:=by subst ht;rfl
 have hr:=Tv.rh hOk []
 rw[List.append_nil] at hr
 have hlen:=t.len
 refine bC ?_
 rw[he,rT,hr]
 unfold rTH
 simp only
 rw[if_neg (by simp),if_neg (by omega),if_pos (by subst ht;rfl),t.body,List.take_length,hv]
 subst ht
 simp only[TR.mk.injEq,and_true,true_and]
 rw[hlen]
theorem Ty:∀(ts:List Tv) (b pre:List UInt8) (en:Nat),b.take en=pre++C6 ts→en≤b.length→(els pre.length ts).map (elO b)=ts.map Tv.enc
 |[],_,_,_,_,_=>rfl
 |t::r,b,pre,en,h,hen=>by
  have h':b.take en=(pre++t.enc)++C6 r:=by rw[h,Df,List.append_assoc]
  have ih:=Ty r b (pre++t.enc) en h' hen
  rw[Ap] at ih
  rw[els,List.map_cons,ih,List.map_cons]
  congr 1
  unfold elO Tv.el
  simp only
  have hl:=congrArg List.length h
  rw[Al,Df,Ap,Ap] at hl
  have e1:(b.drop pre.length).take (pre.length+t.enc.length-pre.length)=((b.take en).drop pre.length).take t.enc.length:=by
   rw[List.drop_take,List.take_take];congr 1;omega
  rw[e1,h,List.drop_left,Df,List.take_left]
theorem Fg {c n:Nat} (ts:List Tv) (hc:c≤3) (hn:n≤30) (ht:∀t∈ts,t.ok) (hl:(C6 ts).length≤2147483600):∃h:Nat,A6 (Ah c n true (C6 ts)) c n=⟨els h ts,0,0⟩∧(els h ts).map (elO (Ah c n true (C6 ts)))=ts.map Tv.enc:=by
 obtain⟨t,e⟩:∃t:Tv,t=⟨c,n,true,C6 ts⟩:=⟨_,rfl⟩
 have hOk:t.ok:=by subst e;exact⟨hc,hn,by show(C6 ts).length≤_;omega⟩
 have he:Ah c n true (C6 ts)=t.enc:=by subst e;rfl
 have hv:t.v=C6 ts:=by subst e;rfl
 have hi:(t.el 0).isB c n true=true:=by subst e;simp[El.isB,Tv.el]
 have hlen:=t.len
 have hpre:(t.enc.take t.hd).length=t.hd:=by rw[Al];omega
 have hcat:t.enc.take t.enc.length=t.enc.take t.hd++C6 ts:=by
  rw[List.take_length,←hv,←t.body,List.take_append_drop]
 refine⟨t.hd,?_,?_⟩
 ·rw[he]
  unfold A6
  rw[H8 hOk,if_neg (by simp)]
  simp only[hi]
  rw[if_neg (by simp)]
  show Cv t.enc (0+t.hd) (0+t.enc.length)=_
  have:=N4 ts t.enc (t.enc.take t.hd) t.enc.length ht hcat (Nat.le_refl _)
  rw[hpre] at this
  rw[Nat.zero_add,Nat.zero_add,this]
 ·rw[he]
  have:=Ty ts t.enc (t.enc.take t.hd) t.enc.length hcat (Nat.le_refl _)
  rwa[hpre] at this
theorem Iy {b:List UInt8} {c n:Nat} (h:(A6 b c n).code=0):∃ts:List Tv,(∀t∈ts,t.ok)∧b=Ah c n true (C6 ts)∧c≤3∧n≤30∧(C6 ts).length≤2147483647:=by
 unfold A6 at h
 by_cases h1:(Bj b).code≠0
 ·rw[if_pos h1] at h;exact absurd h h1
 rw[if_neg h1] at h
 by_cases h2:(Bj b).x.isB c n true=false
 ·rw[if_pos h2] at h;cases h
 rw[if_neg h2] at h
 obtain⟨t,t1,t2,t3⟩:=Qw (Decidable.not_not.1 h1)
 rw[t2] at h h2
 have hb:(t.el 0).isB c n true=true:=by simpa using h2
 unfold El.isB Tv.el at hb
 simp only[At,beq_iff_eq] at hb
 obtain⟨⟨b1,b2⟩,b3⟩:=hb
 have hlen:=t.len
 have h':(Cv b (0+t.hd) (0+t.enc.length)).code=0:=h
 rw[Nat.zero_add,Nat.zero_add] at h'
 obtain⟨ts,q1,-,q3⟩:=R2 _ b t.hd t.enc.length (Nat.le_refl _) (by omega) (by rw[t3];omega) h'
 have hv:(b.drop t.hd).take (t.enc.length-t.hd)=t.v:=by
  rw[t3,t.body];exact List.take_of_length_le (by omega)
 rw[hv] at q3
 have a1:=t1.c
 have a2:=t1.n
 have a3:=t1.v
 refine⟨ts,q1,?_,by omega,by omega,by rw[←q3];exact a3⟩
 rw[t3,Tv.enc,q3]
 rw[b1,b2,b3]
theorem LZ (b:List UInt8) (a:Nat) (t:Tv):bod b (t.el a)=(elO b (t.el a)).drop t.hd:=by
 unfold bod elO Tv.el
 simp only
 rw[List.drop_take,List.drop_drop]
 congr 1
 omega
theorem fT (x y:Tv) (hx:x.ok) (hy:y.ok) (hl:(C6 [x,y]).length≤2147483600):fR (Ah 0 16 true (C6 [x,y]))=if(x.el 0).isB 0 6 false=true∧odC x.v=0 then some (odT x.v,y.enc) else none:=by
 obtain⟨h,e1,e2⟩:=Fg (c:=0) (n:=16) [x,y] (by omega) (by omega) (fun t ht=>by
  rcases List.mem_cons.1 ht with rfl|ht
  ·exact hx
  ·rw[List.mem_singleton.1 ht];exact hy) hl
 unfold fR
 rw[e1]
 simp only[els,List.map_cons,List.map_nil,List.cons.injEq,and_true] at e2
 show(if(x.el h).isB 0 6 false=true∧odC (bod _ (x.el h))=0 then some (odT (bod _ (x.el h)),elO _ (y.el (h+x.enc.length))) else none)=_
 rw[LZ,e2.1,x.body,e2.2]
 rfl
theorem Qx:∀{l:List (List UInt8)},(∀p∈l,∃t:Tv,t.ok∧p=t.enc)→∃ts:List Tv,(∀t∈ts,t.ok)∧l=ts.map Tv.enc
 |[],_=>⟨[],by simp,rfl⟩
 |p::r,h=>by
  obtain⟨t,h1,h2⟩:=h p (by simp)
  obtain⟨ts,h3,h4⟩:=Qx (l:=r) fun q hq=>h q (by simp[hq])
  exact⟨t::ts,fun u hu=>by
   rcases List.mem_cons.1 hu with rfl|hu
   ·exact h1
   ·exact h3 u hu,by rw[List.map_cons,h2,h4]⟩
theorem Eg (ts:List Tv):C6 ts=(ts.map Tv.enc).flatten:=List.flatMap_def ..
theorem lU {b:List UInt8} {r:LR} {w:List UInt8×List UInt8} (h:fQ b r=some w):r.code=0∧r.l.length=2:=by
 refine⟨?_,?_⟩
 ·refine Decidable.byContradiction fun hc=> ?_
  rw[bA (.inl hc)] at h;cases h
 ·refine Decidable.byContradiction fun hc=> ?_
  rw[bA (.inr hc)] at h;cases h
theorem Tz (a:Nat) (ts:List Tv):(els a ts).length=ts.length:=by
 induction ts generalizing a with
 |nil=>rfl
 |cons t r ih=>rw[els,Ag,ih,Ag]
theorem fU (l:Bool) (n:Nat):1≤(Cm l n).length:=by
 rw[Cm];split<;>simp
theorem S1:∀l:List Nat,l.length≤(l.flatMap (Cm true)).length
 |[]=>by simp
 |n::r=>by
  have:=fU true n
  have:=S1 r
  rw[List.flatMap_cons,Ap,Ag];omega
theorem Qy (c:List UInt8):(odT c).length≤21*(c.length+1):=by
 unfold odT
 cases hd:Mv c with
 |none=>simp
 |some a=>
  obtain⟨k1,k2,k3⟩:=Yv hd
  have h1:=K4 a k2
  obtain⟨x,y,r,rfl,-⟩:=Ey k1
  have h2:=fU true (40*x+y)
  have h3:=S1 r
  rw[←k3,Mt,Ap]
  simp only[Ag] at h1
  show(Cd (x::y::r)).length≤_
  omega
theorem Tr.enc_two (t:Tr):2≤t.enc.length:=by
 cases t with
 |mk c n k b ks=>
  rw[Tr.enc,E0]
  have:1≤(Fm (b++Tr.encs ks).length).length:=by
   unfold Fm
   split
   ·rename_i h;rw[C4 (by omega)];simp
   ·simp
  omega
theorem Tr.encs_two:∀l:List Tr,2*l.length≤(Tr.encs l).length
 |[]=>by simp
 |s::r=>by
  have:=s.enc_two
  have:=Tr.encs_two r
  rw[Tr.encs,Ag,Ap];omega
theorem Tr.mem_le {s:Tr}:∀{l:List Tr},s∈l→s.enc.length≤(Tr.encs l).length
 |x::r,h=>by
  rw[Tr.encs,Ap]
  rcases List.mem_cons.1 h with rfl|h
  ·omega
  ·have:=Tr.mem_le h;omega
theorem Tr.parts (t:Tr):t.v.length+(Tr.encs t.ks).length≤t.enc.length:=by
 cases t with
 |mk c n k b ks=>
  rw[Tr.enc,E0,Ap]
  show b.length+(Tr.encs ks).length≤_
  omega
theorem Tr.ok_ks {t:Tr} (h:t.ok):Tr.oks t.ks:=by
 cases t with
 |mk c n k b ks=>rw[Tr.ok] at h;exact h.2.2
theorem GL (b:List UInt8):(Bt b).ok∧(Bt b).enc.length≤b.length+2:=by
 have hW:=Ox 60 b
 by_cases h:(Db 60 b).code=0
 ·obtain⟨t,h1,h2⟩:=hW.1 h
  have he:=AH 60 b _ _ h2
  rw[List.take_length] at he
  have:Bt b=t:=by unfold Bt;rw[h1];rfl
  rw[this,he.2]
  exact⟨he.1,by omega⟩
 ·have:Bt b= .zero:=by unfold Bt TR.tree;rw[(hW.2 h).1];rfl
  rw[this,Tr.zero,Tr.ok,Tr.oks]
  exact⟨⟨by omega,by omega,trivial⟩,by
   have:(Tr.mk 0 0 false [] []).enc.length=2:=by decide+kernel
   rw[this];omega⟩
theorem Jd {t:Tr} (h:t.ok) (i:Nat):(t.kid i).ok∧(t.kid i).enc.length≤t.enc.length+2:=by
 have hp:=t.parts
 unfold Tr.kid
 rw[List.getD_eq_getElem?_getD]
 cases hk:t.ks[i]? with
 |none=>
  show Tr.zero.ok∧Tr.zero.enc.length≤_
  rw[Tr.zero,Tr.ok,Tr.oks]
  exact⟨⟨by omega,by omega,trivial⟩,by
   have:(Tr.mk 0 0 false [] []).enc.length=2:=by decide+kernel
   rw[this];omega⟩
 |some k=>
  have hm:=A8 hk
  have:=Tr.mem_le hm
  exact⟨Tr.oks_mem (Tr.ok_ks h) k hm,by show k.enc.length≤_;omega⟩
end Go.Proofs.YtokmjjkbginodaaGreatDoor
