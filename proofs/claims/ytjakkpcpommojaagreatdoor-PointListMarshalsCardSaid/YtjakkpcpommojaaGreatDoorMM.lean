/- MM: the texts Link MulR MulP MulQ MulS MulC MulT MulL MulI MulJ MulK MulW MulX, one behind the other. No condition but what each lemma says. -/
import Derived.Test.YtjakkpcpommojaaGreatDoorMI
import Derived.Test.YtjakkpcpommojaaGreatDoorMJ
import Derived.Test.YtjakkpcpommojaaGreatDoorMH
set_option maxRecDepth 100000
set_option maxHeartbeats 16000000
namespace Go.Proofs.YtjakkpcpommojaaGreatDoor
open Go.RowKit
theorem jZ (x:S) (r:SR):(Uk x r).code=r.code:=by
 by_cases h:r.code=0
 ·rw[Ph h,h]
 ·rw[Ms h]
theorem kA (sz:Nat) (x:Tr) (r:TR):(Xg sz x r).code=r.code:=by
 by_cases h:r.code=0
 ·rw[L2 h,h]
 ·rw[Ia h];rfl
def Agr (rd:Nat→SR) (rt:List UInt8→TR) (b:List UInt8) (en:Nat):Prop:=∀p,p≤en→(rd p).code=(rt ((b.drop p).take (en-p))).code∧∀s t sz,rd p=⟨[s],0,0⟩→rt ((b.drop p).take (en-p))=⟨[t],sz,0,0⟩→s.stop=p+sz
theorem rR {rd:Nat→SR} {rt:List UInt8→TR} {b:List UInt8} {en:Nat} (hen:en≤b.length) (hs:Rds rd en) (ht:RdT rt) (ha:Agr rd rt b en):∀(f p:Nat),p≤en→(Gv rd en f p).code=(kT rt f ((b.drop p).take (en-p))).code:=by
 intro f
 induction f with
 |zero=>intro p _;rfl
 |succ f ih=>
  intro p hp
  have hl:((b.drop p).take (en-p)).length=en-p:=by rw[List.length_take,List.length_drop];omega
  by_cases h3:p<en
  ·have h0:((b.drop p).take (en-p)).length≠0:=by omega
   obtain⟨a1,a2⟩:=ha p hp
   by_cases h4:(rd p).code=0
   ·obtain⟨s,e1,e2,e3⟩:=(hs p hp).1 h4
    obtain⟨t,sz,q1,q2,q3⟩:=(ht _).1 (a1▸h4)
    have hst:=a2 s t sz e1 q1
    rw[J9 h3 e1,Zr h0 q1,jZ,kA,hst,ih (p+sz) (by omega),List.drop_take,List.drop_drop,show en-p-sz=en-(p+sz) by omega]
   ·rw[L0 h3 h4,mR h0 (a1▸h4)];exact a1
  ·rw[G6 h3,Qp (by omega)]
theorem rS (b:List UInt8):∀(d en:Nat),en≤b.length→Agr (fun p=>Bo b d p en) (rT d) b en:=by
 intro d
 induction d with
 |zero=>intro en _ p _;exact⟨rfl,fun s t sz h=>by simp[Bo,SR.bad] at h⟩
 |succ d ih=>
  intro en hen p hp
  have hl:((b.drop p).take (en-p)).length=en-p:=by rw[List.length_take,List.length_drop];omega
  have hB:=D4 ((b.drop p).take (en-p))
  rw[hl] at hB
  simp only[Bo,rT]
  generalize hh:rhS ((b.drop p).take (en-p))=h at hB⊢
  obtain⟨c1,c2,c3,c4,c5,c6,c7⟩:=hB
  unfold Ka rTH
  by_cases k1:h.code≠0
  ·rw[if_pos k1,if_pos k1]
   exact⟨rfl,fun s t sz h'=>by simp[SR.bad] at h'⟩
  rw[if_neg k1,if_neg k1,hl]
  by_cases k2:en-p<h.size+h.len
  ·rw[if_pos k2,if_pos k2]
   exact⟨rfl,fun s t sz h'=>by simp[SR.bad] at h'⟩
  rw[if_neg k2,if_neg k2]
  by_cases k3:h.k=false
  ·rw[if_pos k3,if_pos k3]
   refine⟨rfl,fun s t sz h1 h2=> ?_⟩
   simp only[SR.mk.injEq,TR.mk.injEq,List.cons.injEq,and_true] at h1 h2
   rw[←h1,←h2.2];simp only[S.stop];omega
  rw[if_neg k3,if_neg k3]
  have e1:(((b.drop p).take (en-p)).drop h.size).take h.len=(b.drop (p+h.size)).take (p+h.size+h.len-(p+h.size)):=by
   rw[List.drop_take,List.drop_drop,List.take_take]
   congr 1;omega
  have hK:(Di (Bo b d) (p+h.size) (p+h.size+h.len)).code=(Bz (rT d) ((((b.drop p).take (en-p)).drop h.size).take h.len)).code:=by
   rw[e1,Bz,show((b.drop (p+h.size)).take (p+h.size+h.len-(p+h.size))).length=p+h.size+h.len-(p+h.size) by rw[List.length_take,List.length_drop];omega]
   exact rR (by omega) (Ga b d _ (by omega)) (Rq d) (ih (p+h.size+h.len) (by omega)) _ (p+h.size) (by omega)
  by_cases k4:(Di (Bo b d) (p+h.size) (p+h.size+h.len)).code≠0
  ·rw[if_pos k4,if_pos (hK▸k4)]
   exact⟨hK,fun s t sz h'=>by simp[SR.bad] at h'⟩
  ·rw[if_neg k4,if_neg (hK▸k4)]
   refine⟨rfl,fun s t sz h1 h2=> ?_⟩
   simp only[SR.mk.injEq,TR.mk.injEq,List.cons.injEq,and_true] at h1 h2
   rw[←h1,←h2.2];simp only[S.stop];omega
theorem kB (b:List UInt8):(Ee b).code=(Ek 16 b).code:=by
 have hA:=rS b 16 b.length (Nat.le_refl _) 0 (Nat.zero_le _)
 rw[List.drop_zero,Nat.sub_zero,List.take_length] at hA
 obtain⟨a1,a2⟩:=hA
 have hF:=Ga b 16 b.length (by omega) 0 (by omega)
 dsimp only at hF a1 a2
 have hT:=Rq 16 b
 unfold Ee Ek
 by_cases h:(Bo b 16 0 b.length).code=0
 ·obtain⟨s,e1,e2,e3⟩:=hF.1 h
  obtain⟨t,sz,q1,q2,q3⟩:=hT.1 (a1▸h)
  have hst:=a2 s t sz e1 q1
  rw[e1,q1]
  by_cases h3:s.stop<b.length
  ·rw[Hk h3,L3 (by omega)];rfl
  ·rw[Kb h3,Qq (by omega)]
 ·have h':=hT.2 (a1▸h)
  have h1:Bo b 16 0 b.length=⟨[],(Bo b 16 0 b.length).code,(Bo b 16 0 b.length).off⟩:=by
   have:=(hF.2 h).2
   generalize Bo b 16 0 b.length=r at this⊢
   obtain⟨l,c,o⟩:=r
   simp only at this;rw[this]
  have h2:rT 16 b=⟨[],0,(rT 16 b).code,(rT 16 b).off⟩:=by
   have h5:=h'.2.1;have h6:=h'.2.2.1
   generalize rT 16 b=r at h5 h6⊢
   obtain⟨l,z,c,o⟩:=r
   simp only at h5 h6;rw[h5,h6]
  rw[h1,h2,Im,N7]
  simp only[SR.bad,TR.bad]
  rw[a1]
theorem mV (b:List UInt8):Es b=dU b:=by unfold Es dU;rw[kB]
theorem N8 (b:List UInt8) (hb:b.length≤1000000000):Ab Tryz.prog 108 [.d (Ag false b)] (fun r=>r=bv (Es b)):=by rw[mV];exact rP b hb
def xJ (ps:List (List UInt8)):D:=Er true 1 Ct ps
theorem Xj (ps:List (List UInt8)):(xJ ps).un=C4 ps:=by
 show D.sl false ps.length 1 (D.uns (ps.flatMap Ct))=_
 rw[A5];rfl
theorem Ds {b:List UInt8} {c n:Nat} {x:El} (h:x∈(Aw b c n).l):x.at'+2≤x.body∧x.body≤x.stop∧x.stop≤b.length:=by
 have hF:=Dm b
 unfold Aw at h
 split at h
 ·cases h
 ·split at h
  ·cases h
  ·have:=cW hF.2.2.2.2.2.1 h
   omega
theorem Ip (b:List UInt8) (c n:Nat):(Aw b c n).l.length≤b.length:=by
 have hF:=Dm b
 unfold Aw
 split
 ·exact Nat.zero_le _
 ·split
  ·exact Nat.zero_le _
  ·have:=W4 (b:=b) hF.2.2.2.2.2.1 ((A8 b).x.stop-(A8 b).x.body) (A8 b).x.body
   exact Nat.le_trans this (by omega)
theorem Hp {α β:Type} (f:α→β) {l:List α} {i:Nat} {x:α} (h:l[i]?=some x):(l.take (i+1)).map f=(l.take i).map f++[f x]:=by
 obtain⟨hlt,he⟩:=List.getElem?_eq_some_iff.1 h
 rw[List.take_succ_eq_append_getElem hlt,he,List.map_append];rfl
theorem rU {b:List UInt8} {en:Nat} (hen:en≤b.length):∀(f p:Nat),p≤en→(D7 b en f p).off≤b.length:=by
 intro f
 induction f with
 |zero=>intro p _;exact Nat.zero_le _
 |succ f ih=>
  intro p hp
  rw[D7]
  have hF:=F7 b p en hp hen
  split
  ·split
   ·show(nxS b p en).off≤_
    have:=hF.2.2.1
    omega
   ·rename_i h1
    have:=hF.1 (by omega)
    split
    ·exact ih _ (by omega)
    ·exact Nat.zero_le _
  ·exact Nat.zero_le _
theorem Iq (b:List UInt8) (c n:Nat):(Aw b c n).off≤b.length:=by
 have hF:=Dm b
 unfold Aw
 split
 ·exact hF.2.2.1
 ·split
  ·exact Nat.zero_le _
  ·exact rU hF.2.2.2.2.2.1 _ _ hF.2.2.2.2.2.2
def bod (b:List UInt8) (x:El):List UInt8:=(b.drop x.body).take (x.stop-x.body)
def dV (b:List UInt8):LR→Option (List UInt8×List UInt8)
 |⟨[x,y],0,_⟩=>if x.isB 0 6 false=true∧odC (bod b x)=0 then some (odT (bod b x),elO b y) else none
 |_=>none
def dW (b:List UInt8):Option (List UInt8×List UInt8):=dV b (Aw b 0 16)
theorem Zt {b:List UInt8} {r:LR} (h:r.code≠0∨r.l.length≠2):dV b r=none:=by
 obtain⟨l,c,o⟩:=r
 match l,c with
 |[x,y],0=>rcases h with h|h<;>simp at h
 |[x,y],c+1=>rfl
 |[],0=>rfl
 |[],c+1=>rfl
 |[x],0=>rfl
 |[x],c+1=>rfl
 |x::y::z::r,0=>rfl
 |x::y::z::r,c+1=>rfl
theorem Mw {α:Type} {l:List α} {i:Nat} {x:α} (h:l[i]?=some x):l.drop i=x::l.drop (i+1):=by
 obtain⟨hlt,he⟩:=List.getElem?_eq_some_iff.1 h
 rw[List.drop_eq_getElem_cons hlt,he]
theorem Sf {α:Type} {a b:List α} {i:Nat} {x:α} (h:a.take i=b.take i) (h1:a[i]?=some x) (h2:b[i]?=some x):a.take (i+1)=b.take (i+1):=by
 obtain⟨l1,e1⟩:=List.getElem?_eq_some_iff.1 h1
 obtain⟨l2,e2⟩:=List.getElem?_eq_some_iff.1 h2
 rw[List.take_succ_eq_append_getElem l1,List.take_succ_eq_append_getElem l2,h,e1,e2]
theorem mW {α:Type} {a b:List α} {i:Nat} {x y:α} (h1:a[i]?=some x) (h2:b[i]?=some y) (h:x≠y):a≠b:=fun e=>by
 subst e;rw[h1] at h2;exact h (Option.some.inj h2)
theorem Zu {α:Type} {a b:List α} {i:Nat} (h:a.take i=b.take i) (hi:¬(i<a.length∧i<b.length)) (_:i≤a.length) (_:i≤b.length) (he:a.length=b.length):a=b:=by
 have h1:a.take i=a:=List.take_of_length_le (by omega)
 have h2:b.take i=b:=List.take_of_length_le (by omega)
 rw[←h1,←h2,h]
structure Mu.md (m:Mu):Prop where
 o:m.oid.length≤1000000000
 n:m.vs.length≤1000000
 v:∀p∈m.vs,p.length≤1000000000
deriving instance DecidableEq for Mu
def RdE (rd:List UInt8→TR):Prop:=∀l t sz,rd l=⟨[t],sz,0,0⟩→t.ok∧t.enc=l.take sz
theorem xK {rd:List UInt8→TR} (hr:RdT rd) (he:RdE rd):∀(f:Nat) (l:List UInt8),l.length≤f→(Bz rd l).code=0→Tr.oks (Bz rd l).l∧Tr.encs (Bz rd l).l=l:=by
 intro f
 induction f with
 |zero=>
  intro l h _
  have:l=[]:=List.eq_nil_of_length_eq_zero (by omega)
  subst this
  rw[Fd rfl,Tr.oks,Tr.encs]
  exact⟨trivial,rfl⟩
 |succ f ih=>
  intro l h h0
  by_cases h3:l.length=0
  ·have:l=[]:=List.eq_nil_of_length_eq_zero h3
   subst this
   rw[Fd rfl,Tr.oks,Tr.encs]
   exact⟨trivial,rfl⟩
  ·by_cases h4:(rd l).code=0
   ·obtain⟨t,sz,e1,e2,e3⟩:=(hr l).1 h4
    obtain⟨k1,k2⟩:=he l t sz e1
    have hs:=Io hr h3 e1
    rw[hs] at h0⊢
    have h5:(Bz rd (l.drop sz)).code=0:=by
     by_cases h6:(Bz rd (l.drop sz)).code=0
     ·exact h6
     ·rw[Ia h6] at h0;exact absurd h0 h6
    obtain⟨q1,q2⟩:=ih (l.drop sz) (by rw[List.length_drop];omega) h5
    rw[L2 h5,Tr.oks,Tr.encs,q2,k2,List.take_append_drop]
    exact⟨⟨k1,q1⟩,rfl⟩
   ·rw[Mt h3 h4] at h0;exact absurd h0 h4
theorem IU:∀d,RdE (rT d):=by
 intro d
 induction d with
 |zero=>intro l t sz h;simp[rT,TR.bad] at h
 |succ d ih=>
  intro l t sz h
  have hB:=D4 l
  have hI:=mS (l:=l)
  simp only[rT] at h
  generalize hh:rhS l=q at hB hI h
  obtain⟨c1,c2,c3,c4,c5,c6,c7⟩:=hB
  unfold rTH at h
  by_cases k1:q.code≠0
  ·rw[if_pos k1] at h;simp[TR.bad] at h
  rw[if_neg k1] at h
  by_cases k2:l.length<q.size+q.len
  ·rw[if_pos k2] at h;simp[TR.bad] at h
  rw[if_neg k2] at h
  have hI':=hI (Decidable.not_not.1 k1) (by omega)
  by_cases k3:q.k=false
  ·rw[if_pos k3] at h
   simp only[TR.mk.injEq,List.cons.injEq,and_true] at h
   obtain⟨rfl,rfl⟩:=h
   rw[hI',k3,Tr.ok,Tr.enc,Tr.encs,Tr.oks,List.append_nil]
   exact⟨⟨by omega,by omega,trivial⟩,rfl⟩
  rw[if_neg k3] at h
  by_cases k4:(Bz (rT d) ((l.drop q.size).take q.len)).code≠0
  ·rw[if_pos k4] at h;simp[TR.bad] at h
  rw[if_neg k4] at h
  simp only[TR.mk.injEq,List.cons.injEq,and_true] at h
  obtain⟨rfl,rfl⟩:=h
  obtain⟨q1,q2⟩:=xK (Rq d) ih _ _ (Nat.le_refl _) (Decidable.not_not.1 k4)
  have kt:q.k=true:=by cases hk:q.k with|true=>rfl|false=>exact absurd hk k3
  rw[hI',kt,Tr.ok,Tr.enc,q2,List.nil_append]
  exact⟨⟨by omega,by omega,q1⟩,rfl⟩
def IV (rd rd':List UInt8→TR):Prop:=∀l,(rd l).code=0→rd' l=rd l
theorem rV {rd rd':List UInt8→TR} (hr:RdT rd) (hr':RdT rd') (hm:IV rd rd'):∀(f:Nat) (l:List UInt8),l.length≤f→(Bz rd l).code=0→Bz rd' l=Bz rd l:=by
 intro f
 induction f with
 |zero=>intro l h _;rw[Fd (by omega),Fd (by omega)]
 |succ f ih=>
  intro l h h0
  by_cases h3:l.length=0
  ·rw[Fd h3,Fd h3]
  ·by_cases h4:(rd l).code=0
   ·obtain⟨t,sz,e1,e2,e3⟩:=(hr l).1 h4
    have hs:=Io hr h3 e1
    have hs':=Io hr' h3 ((hm l h4).trans e1)
    rw[hs] at h0
    have h5:(Bz rd (l.drop sz)).code=0:=by
     by_cases h6:(Bz rd (l.drop sz)).code=0
     ·exact h6
     ·rw[Ia h6] at h0;exact absurd h0 h6
    rw[hs,hs',ih (l.drop sz) (by rw[List.length_drop];omega) h5]
   ·rw[Mt h3 h4] at h0;exact absurd h0 h4
theorem DM:∀d,IV (rT d) (rT (d+1)):=by
 intro d
 induction d with
 |zero=>intro l h;simp[rT,TR.bad] at h
 |succ d ih=>
  intro l h
  rw[rT] at h⊢
  rw[rT]
  generalize rhS l=q at h⊢
  unfold rTH at h⊢
  by_cases k1:q.code≠0
  ·rw[if_pos k1] at h;exact absurd h k1
  rw[if_neg k1] at h⊢
  rw[if_neg k1]
  by_cases k2:l.length<q.size+q.len
  ·rw[if_pos k2] at h;cases h
  rw[if_neg k2] at h⊢
  rw[if_neg k2]
  by_cases k3:q.k=false
  ·rw[if_pos k3,if_pos k3]
  rw[if_neg k3] at h⊢
  rw[if_neg k3]
  by_cases k4:(Bz (rT d) ((l.drop q.size).take q.len)).code≠0
  ·rw[if_pos k4] at h;exact absurd h k4
  have hk:=rV (Rq d) (Rq (d+1)) ih _ _ (Nat.le_refl _) (Decidable.not_not.1 k4)
  rw[hk]
theorem DN {d e:Nat} (h:d≤e):IV (rT d) (rT e):=by
 obtain⟨k,rfl⟩:=Nat.exists_eq_add_of_le h
 induction k with
 |zero=>intro l _;rfl
 |succ k ih=>
  intro l h0
  have h1:=ih (by omega) l h0
  exact(DM (d+k) l (by rw[h1];exact h0)).trans h1
def trD (d:Nat) (p:List UInt8):Tr:=(rT d p).l.headD .zero
def One (d:Nat) (p:List UInt8):Prop:=rT d p=⟨[trD d p],p.length,0,0⟩
theorem xL {d:Nat} {p:List UInt8} {t:Tr} (h:rT d p=⟨[t],p.length,0,0⟩):One d p∧trD d p=t:=by
 have:trD d p=t:=by unfold trD;rw[h];rfl
 exact⟨by unfold One;rw[this];exact h,this⟩
theorem One.enc {d:Nat} {p:List UInt8} (h:One d p):(trD d p).ok∧(trD d p).enc=p:=by
 have:=IU d p _ _ h
 rw[List.take_length] at this;exact this
theorem One.mono {d e:Nat} {p:List UInt8} (h:One d p) (hd:d≤e):One e p∧trD e p=trD d p:=by
 have h0:(rT d p).code=0:=by rw[h]
 exact xL ((DN hd p h0).trans h)
theorem xM {p:List UInt8} (h:Es p=true):One 16 p:=by
 rw[mV] at h
 unfold dU at h
 obtain⟨t,-,h2⟩:=(V7 16 p).1 (by simpa using h)
 exact(xL h2).1
theorem One.tv {d:Nat} {p:List UInt8} (h:One d p) (hl:p.length≤2147483647):∃t:Tv,t.ok∧p=t.enc:=by
 obtain⟨h1,h2⟩:=h.enc
 generalize trD d p=t at h1 h2
 obtain⟨c,n,k,b,ks⟩:=t
 rw[Tr.ok] at h1
 rw[Tr.enc] at h2
 refine⟨⟨c,n,k,b++Tr.encs ks⟩,⟨h1.1,h1.2.1,?_⟩,h2.symm⟩
 have:=congrArg List.length h2
 rw[Hl] at this
 show(b++Tr.encs ks).length≤_
 omega
theorem Sg:∀(ts:List Tv) (b pre:List UInt8) (en:Nat),b.take en=pre++Cm ts→en≤b.length→(els pre.length ts).map (elO b)=ts.map Tv.enc
 |[],_,_,_,_,_=>rfl
 |t::r,b,pre,en,h,hen=>by
  have h':b.take en=(pre++t.enc)++Cm r:=by rw[h,Cy,List.append_assoc]
  have ih:=Sg r b (pre++t.enc) en h' hen
  rw[List.length_append] at ih
  rw[els,List.map_cons,ih,List.map_cons]
  congr 1
  unfold elO Tv.el
  simp only
  have hl:=congrArg List.length h
  rw[List.length_take,Cy,List.length_append,List.length_append] at hl
  have e1:(b.drop pre.length).take (pre.length+t.enc.length-pre.length)=((b.take en).drop pre.length).take t.enc.length:=by
   rw[List.drop_take,List.take_take];congr 1;omega
  rw[e1,h,List.drop_left,Cy,List.take_left]
theorem Eu {c n:Nat} (ts:List Tv) (hc:c≤3) (hn:n≤30) (ht:∀t∈ts,t.ok) (hl:(Cm ts).length≤2147483600):∃h:Nat,Aw (Ah c n true (Cm ts)) c n=⟨els h ts,0,0⟩∧(els h ts).map (elO (Ah c n true (Cm ts)))=ts.map Tv.enc:=by
 obtain⟨t,e⟩:∃t:Tv,t=⟨c,n,true,Cm ts⟩:=⟨_,rfl⟩
 have hOk:t.ok:=by subst e;exact⟨hc,hn,by show(Cm ts).length≤_;omega⟩
 have he:Ah c n true (Cm ts)=t.enc:=by subst e;rfl
 have hv:t.v=Cm ts:=by subst e;rfl
 have hi:(t.el 0).isB c n true=true:=by subst e;simp[El.isB,Tv.el]
 have hlen:=t.len
 have hpre:(t.enc.take t.hd).length=t.hd:=by rw[List.length_take];omega
 have hcat:t.enc.take t.enc.length=t.enc.take t.hd++Cm ts:=by
  rw[List.take_length,←hv,←t.body,List.take_append_drop]
 refine⟨t.hd,?_,?_⟩
 ·rw[he]
  unfold Aw
  rw[Hm hOk,if_neg (by simp)]
  simp only[hi]
  rw[if_neg (by simp)]
  show Ci t.enc (0+t.hd) (0+t.enc.length)=_
  have:=Mv ts t.enc (t.enc.take t.hd) t.enc.length ht hcat (Nat.le_refl _)
  rw[hpre] at this
  rw[Nat.zero_add,Nat.zero_add,this]
 ·rw[he]
  have:=Sg ts t.enc (t.enc.take t.hd) t.enc.length hcat (Nat.le_refl _)
  rwa[hpre] at this
theorem Kc {b:List UInt8} {c n:Nat} (h:(Aw b c n).code=0):∃ts:List Tv,(∀t∈ts,t.ok)∧b=Ah c n true (Cm ts)∧c≤3∧n≤30∧(Cm ts).length≤2147483647:=by
 unfold Aw at h
 by_cases h1:(A8 b).code≠0
 ·rw[if_pos h1] at h;exact absurd h h1
 rw[if_neg h1] at h
 by_cases h2:(A8 b).x.isB c n true=false
 ·rw[if_pos h2] at h;cases h
 rw[if_neg h2] at h
 obtain⟨t,t1,t2,t3⟩:=Pk (Decidable.not_not.1 h1)
 rw[t2] at h h2
 have hb:(t.el 0).isB c n true=true:=by simpa using h2
 unfold El.isB Tv.el at hb
 simp only[Bool.and_eq_true,beq_iff_eq] at hb
 obtain⟨⟨b1,b2⟩,b3⟩:=hb
 have hlen:=t.len
 have h':(Ci b (0+t.hd) (0+t.enc.length)).code=0:=h
 rw[Nat.zero_add,Nat.zero_add] at h'
 obtain⟨ts,q1,-,q3⟩:=Qs _ b t.hd t.enc.length (Nat.le_refl _) (by omega) (by rw[t3];omega) h'
 have hv:(b.drop t.hd).take (t.enc.length-t.hd)=t.v:=by
  rw[t3,t.body];exact List.take_of_length_le (by omega)
 rw[hv] at q3
 have a1:=t1.c
 have a2:=t1.n
 have a3:=t1.v
 refine⟨ts,q1,?_,by omega,by omega,by rw[←q3];exact a3⟩
 rw[t3,Tv.enc,q3]
 rw[b1,b2,b3]
theorem IW (b:List UInt8) (a:Nat) (t:Tv):bod b (t.el a)=(elO b (t.el a)).drop t.hd:=by
 unfold bod elO Tv.el
 simp only
 rw[List.drop_take,List.drop_drop]
 congr 1
 omega
theorem dX (x y:Tv) (hx:x.ok) (hy:y.ok) (hl:(Cm [x,y]).length≤2147483600):dW (Ah 0 16 true (Cm [x,y]))=if(x.el 0).isB 0 6 false=true∧odC x.v=0 then some (odT x.v,y.enc) else none:=by
 obtain⟨h,e1,e2⟩:=Eu (c:=0) (n:=16) [x,y] (by omega) (by omega) (fun t ht=>by
  rcases List.mem_cons.1 ht with rfl|ht
  ·exact hx
  ·rw[List.mem_singleton.1 ht];exact hy) hl
 unfold dW
 rw[e1]
 simp only[els,List.map_cons,List.map_nil,List.cons.injEq,and_true] at e2
 show(if(x.el h).isB 0 6 false=true∧odC (bod _ (x.el h))=0 then some (odT (bod _ (x.el h)),elO _ (y.el (h+x.enc.length))) else none)=_
 rw[IW,e2.1,x.body,e2.2]
 rfl
theorem Mx:∀{l:List (List UInt8)},(∀p∈l,∃t:Tv,t.ok∧p=t.enc)→∃ts:List Tv,(∀t∈ts,t.ok)∧l=ts.map Tv.enc
 |[],_=>⟨[],by simp,rfl⟩
 |p::r,h=>by
  obtain⟨t,h1,h2⟩:=h p (by simp)
  obtain⟨ts,h3,h4⟩:=Mx (l:=r) fun q hq=>h q (by simp[hq])
  exact⟨t::ts,fun u hu=>by
   rcases List.mem_cons.1 hu with rfl|hu
   ·exact h1
   ·exact h3 u hu,by rw[List.map_cons,h2,h4]⟩
theorem Ef (ts:List Tv):Cm ts=(ts.map Tv.enc).flatten:=List.flatMap_def ..
theorem kC {b:List UInt8} {r:LR} {w:List UInt8×List UInt8} (h:dV b r=some w):r.code=0∧r.l.length=2:=by
 refine⟨?_,?_⟩
 ·refine Decidable.byContradiction fun hc=> ?_
  rw[Zt (.inl hc)] at h;cases h
 ·refine Decidable.byContradiction fun hc=> ?_
  rw[Zt (.inr hc)] at h;cases h
theorem Sh (a:Nat) (ts:List Tv):(els a ts).length=ts.length:=by
 induction ts generalizing a with
 |nil=>rfl
 |cons t r ih=>rw[els,List.length_cons,ih,List.length_cons]
theorem Tr.parts (t:Tr):t.v.length+(Tr.encs t.ks).length≤t.enc.length:=by
 cases t with
 |mk c n k b ks=>
  rw[Tr.enc,Hl,List.length_append]
  show b.length+(Tr.encs ks).length≤_
  omega
end Go.Proofs.YtjakkpcpommojaaGreatDoor
