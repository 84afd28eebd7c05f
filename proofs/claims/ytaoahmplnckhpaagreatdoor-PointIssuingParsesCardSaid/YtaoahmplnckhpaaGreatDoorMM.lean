/- MM: the texts Link MulR MulP MulQ MulS MulC MulT MulL MulI MulJ MulK MulW MulX, one behind the other. No condition but what each lemma says. -/
import Derived.Test.YtaoahmplnckhpaaGreatDoorMJ
import Derived.Test.YtaoahmplnckhpaaGreatDoorMH
set_option maxRecDepth 100000
set_option maxHeartbeats 16000000
namespace Go.Proofs.YtaoahmplnckhpaaGreatDoor
open Go.RowKit
theorem lE (x:S) (r:SR):(Vw x r).code=r.code:=by
 by_cases h:r.code=0
 ·rw[Qg h,h]
 ·rw[Nm h]
theorem lF (sz:Nat) (x:Tr) (r:TR):(Ym sz x r).code=r.code:=by
 by_cases h:r.code=0
 ·rw[Kx h,h]
 ·rw[Ir h];rfl
def Agr (rd:Nat→SR) (rt:List UInt8→TR) (b:List UInt8) (en:Nat):Prop:=∀p,p≤en→(rd p).code=(rt ((b.drop p).take (en-p))).code∧∀s t sz,rd p=⟨[s],0,0⟩→rt ((b.drop p).take (en-p))=⟨[t],sz,0,0⟩→s.stop=p+sz
theorem sP {rd:Nat→SR} {rt:List UInt8→TR} {b:List UInt8} {en:Nat} (hen:en≤b.length) (hs:Rds rd en) (ht:RdT rt) (ha:Agr rd rt b en):∀(f p:Nat),p≤en→(Hg rd en f p).code=(kT rt f ((b.drop p).take (en-p))).code:=by
 intro f
 induction f with
 |zero=>intro p _;rfl
 |succ f ih=>
  intro p hp
  have hl:((b.drop p).take (en-p)).length=en-p:=by rw[Ao,Ax];omega
  by_cases h3:p<en
  ·have h0:((b.drop p).take (en-p)).length≠0:=by omega
   obtain⟨a1,a2⟩:=ha p hp
   by_cases h4:(rd p).code=0
   ·obtain⟨s,e1,e2,e3⟩:=(hs p hp).1 h4
    obtain⟨t,sz,q1,q2,q3⟩:=(ht _).1 (a1▸h4)
    have hst:=a2 s t sz e1 q1
    rw[Ku h3 e1,aM h0 q1,lE,lF,hst,ih (p+sz) (by omega),List.drop_take,List.drop_drop,show en-p-sz=en-(p+sz) by omega]
   ·rw[Mq h3 h4,nQ h0 (a1▸h4)];exact a1
  ·rw[Hr h3,Rs (by omega)]
theorem sQ (b:List UInt8):∀(d en:Nat),en≤b.length→Agr (fun p=>By b d p en) (rT d) b en:=by
 intro d
 induction d with
 |zero=>intro en _ p _;exact⟨rfl,fun s t sz h=>by simp[By,SR.bad] at h⟩
 |succ d ih=>
  intro en hen p hp
  have hl:((b.drop p).take (en-p)).length=en-p:=by rw[Ao,Ax];omega
  have hB:=Ef ((b.drop p).take (en-p))
  rw[hl] at hB
  simp only[By,rT]
  generalize hh:rhS ((b.drop p).take (en-p))=h at hB⊢
  obtain⟨c1,c2,c3,c4,c5,c6,c7⟩:=hB
  unfold Kv rTH
  by_cases k1:h.code≠0
  ·rw[if_pos k1,if_pos k1]
   exact⟨rfl,fun s t sz h'=>by simp[SR.bad] at h'⟩
  rw[if_neg k1,if_neg k1,hl]
  by_cases k2:en-p<h.size+h.len
  ·rw[if_pos k2,if_pos k2]
   exact⟨rfl,fun s t sz h'=>by simp[SR.bad] at h'⟩
  rw[if_neg k2,if_neg k2]
  by_cases k3:h.k=false
  ·rw[if_pos k3,if_pos k3]
   refine⟨rfl,fun s t sz h1 h2=> ?_⟩
   simp only[SR.mk.injEq,TR.mk.injEq,List.cons.injEq,and_true] at h1 h2
   rw[←h1,←h2.2];simp only[S.stop];omega
  rw[if_neg k3,if_neg k3]
  have e1:(((b.drop p).take (en-p)).drop h.size).take h.len=(b.drop (p+h.size)).take (p+h.size+h.len-(p+h.size)):=by
   rw[List.drop_take,List.drop_drop,List.take_take]
   congr 1;omega
  have hK:(Dz (By b d) (p+h.size) (p+h.size+h.len)).code=(Ch (rT d) ((((b.drop p).take (en-p)).drop h.size).take h.len)).code:=by
   rw[e1,Ch,show((b.drop (p+h.size)).take (p+h.size+h.len-(p+h.size))).length=p+h.size+h.len-(p+h.size) by rw[Ao,Ax];omega]
   exact sP (by omega) (Gs b d _ (by omega)) (Od d) (ih (p+h.size+h.len) (by omega)) _ (p+h.size) (by omega)
  by_cases k4:(Dz (By b d) (p+h.size) (p+h.size+h.len)).code≠0
  ·rw[if_pos k4,if_pos (hK▸k4)]
   exact⟨hK,fun s t sz h'=>by simp[SR.bad] at h'⟩
  ·rw[if_neg k4,if_neg (hK▸k4)]
   refine⟨rfl,fun s t sz h1 h2=> ?_⟩
   simp only[SR.mk.injEq,TR.mk.injEq,List.cons.injEq,and_true] at h1 h2
   rw[←h1,←h2.2];simp only[S.stop];omega
theorem lG (b:List UInt8):(Ex b).code=(Db 16 b).code:=by
 have hA:=sQ b 16 b.length (Nat.le_refl _) 0 (Nat.zero_le _)
 rw[List.drop_zero,Nat.sub_zero,List.take_length] at hA
 obtain⟨a1,a2⟩:=hA
 have hF:=Gs b 16 b.length (by omega) 0 (by omega)
 dsimp only at hF a1 a2
 have hT:=Od 16 b
 unfold Ex Db
 by_cases h:(By b 16 0 b.length).code=0
 ·obtain⟨s,e1,e2,e3⟩:=hF.1 h
  obtain⟨t,sz,q1,q2,q3⟩:=hT.1 (a1▸h)
  have hst:=a2 s t sz e1 q1
  rw[e1,q1]
  by_cases h3:s.stop<b.length
  ·rw[H1 h3,Ms (by omega)];rfl
  ·rw[Kw h3,No (by omega)]
 ·have h':=hT.2 (a1▸h)
  have h1:By b 16 0 b.length=⟨[],(By b 16 0 b.length).code,(By b 16 0 b.length).off⟩:=by
   have:=(hF.2 h).2
   generalize By b 16 0 b.length=r at this⊢
   obtain⟨l,c,o⟩:=r
   simp only at this;rw[this]
  have h2:rT 16 b=⟨[],0,(rT 16 b).code,(rT 16 b).off⟩:=by
   have h5:=h'.2.1;have h6:=h'.2.2.1
   generalize rT 16 b=r at h5 h6⊢
   obtain⟨l,z,c,o⟩:=r
   simp only at h5 h6;rw[h5,h6]
  rw[h1,h2,I6,O3]
  simp only[SR.bad,TR.bad]
  rw[a1]
theorem nU (b:List UInt8):Ek b=fC b:=by unfold Ek fC;rw[lG]
theorem O5 (b:List UInt8) (hb:b.length≤1000000000):Ab Tryz.prog 143 [.d (Af false b)] (fun r=>r=bv (Ek b)):=by rw[nU];exact sN b hb
def yB (ps:List (List UInt8)):D:=Fp true 1 Du ps
theorem Yp (ps:List (List UInt8)):(yB ps).un=Do ps:=by
 show D.sl false ps.length 1 (D.uns (ps.flatMap Du))=_
 rw[Bd];rfl
theorem Ey {b:List UInt8} {c n:Nat} {x:El} (h:x∈(Bc b c n).l):x.at'+2≤x.body∧x.body≤x.stop∧x.stop≤b.length:=by
 have hF:=D6 b
 unfold Bc at h
 split at h
 ·cases h
 ·split at h
  ·cases h
  ·have:=dZ hF.2.2.2.2.2.1 h
   omega
theorem Lf (b:List UInt8) (c n:Nat):(Bc b c n).l.length≤b.length:=by
 have hF:=D6 b
 unfold Bc
 split
 ·exact Nat.zero_le _
 ·split
  ·exact Nat.zero_le _
  ·have:=X8 (b:=b) hF.2.2.2.2.2.1 ((Bh b).x.stop-(Bh b).x.body) (Bh b).x.body
   exact Nat.le_trans this (by omega)
theorem G7 {α β:Type} (f:α→β) {l:List α} {i:Nat} {x:α} (h:l[i]?=some x):(l.take (i+1)).map f=(l.take i).map f++[f x]:=by
 obtain⟨hlt,he⟩:=Az.1 h
 rw[List.take_succ_eq_append_getElem hlt,he,List.map_append];rfl
theorem sR {b:List UInt8} {en:Nat} (hen:en≤b.length):∀(f p:Nat),p≤en→(Ej b en f p).off≤b.length:=by
 intro f
 induction f with
 |zero=>intro p _;exact Nat.zero_le _
 |succ f ih=>
  intro p hp
  rw[Ej]
  have hF:=Gq b p en hp hen
  split
  ·split
   ·show(nxS b p en).off≤_
    have:=hF.2.2.1
    omega
   ·rename_i h1
    have:=hF.1 (by omega)
    split
    ·exact ih _ (by omega)
    ·exact Nat.zero_le _
  ·exact Nat.zero_le _
theorem I7 (b:List UInt8) (c n:Nat):(Bc b c n).off≤b.length:=by
 have hF:=D6 b
 unfold Bc
 split
 ·exact hF.2.2.1
 ·split
  ·exact Nat.zero_le _
  ·exact sR hF.2.2.2.2.2.1 _ _ hF.2.2.2.2.2.2
def bod (b:List UInt8) (x:El):List UInt8:=(b.drop x.body).take (x.stop-x.body)
def fF (b:List UInt8):LR→Option (List UInt8×List UInt8)
 |⟨[x,y],0,_⟩=>if x.isB 0 6 false=true∧odC (bod b x)=0 then some (odT (bod b x),elO b y) else none
 |_=>none
def fG (b:List UInt8):Option (List UInt8×List UInt8):=fF b (Bc b 0 16)
theorem aP {b:List UInt8} {r:LR} (h:r.code≠0∨r.l.length≠2):fF b r=none:=by
 obtain⟨l,c,o⟩:=r
 match l,c with
 |[x,y],0=>rcases h with h|h<;>simp at h
 |[x,y],c+1=>rfl
 |[],0=>rfl
 |[],c+1=>rfl
 |[x],0=>rfl
 |[x],c+1=>rfl
 |x::y::z::r,0=>rfl
 |x::y::z::r,c+1=>rfl
theorem Rv {α:Type} {l:List α} {i:Nat} {x:α} (h:l[i]?=some x):l.drop i=x::l.drop (i+1):=by
 obtain⟨hlt,he⟩:=Az.1 h
 rw[List.drop_eq_getElem_cons hlt,he]
theorem aQ {α:Type} {a b:List α} {i:Nat} {x:α} (h:a.take i=b.take i) (h1:a[i]?=some x) (h2:b[i]?=some x):a.take (i+1)=b.take (i+1):=by
 obtain⟨l1,e1⟩:=Az.1 h1
 obtain⟨l2,e2⟩:=Az.1 h2
 rw[List.take_succ_eq_append_getElem l1,List.take_succ_eq_append_getElem l2,h,e1,e2]
theorem yC {α:Type} {a b:List α} {i:Nat} {x y:α} (h1:a[i]?=some x) (h2:b[i]?=some y) (h:x≠y):a≠b:=fun e=>by
 subst e;rw[h1] at h2;exact h (Option.some.inj h2)
theorem lH {α:Type} {a b:List α} {i:Nat} (h:a.take i=b.take i) (hi:¬(i<a.length∧i<b.length)) (_:i≤a.length) (_:i≤b.length) (he:a.length=b.length):a=b:=by
 have h1:a.take i=a:=List.take_of_length_le (by omega)
 have h2:b.take i=b:=List.take_of_length_le (by omega)
 rw[←h1,←h2,h]
structure Mu.md (m:Mu):Prop where
 o:m.oid.length≤1000000000
 n:m.vs.length≤1000000
 v:∀p∈m.vs,p.length≤1000000000
deriving instance DecidableEq for Mu
def RdE (rd:List UInt8→TR):Prop:=∀l t sz,rd l=⟨[t],sz,0,0⟩→t.ok∧t.enc=l.take sz
theorem yD {rd:List UInt8→TR} (hr:RdT rd) (he:RdE rd):∀(f:Nat) (l:List UInt8),l.length≤f→(Ch rd l).code=0→Tr.oks (Ch rd l).l∧Tr.encs (Ch rd l).l=l:=by
 intro f
 induction f with
 |zero=>
  intro l h _
  have:l=[]:=List.eq_nil_of_length_eq_zero (by omega)
  subst this
  rw[Fb rfl,Tr.oks,Tr.encs]
  exact⟨trivial,rfl⟩
 |succ f ih=>
  intro l h h0
  by_cases h3:l.length=0
  ·have:l=[]:=List.eq_nil_of_length_eq_zero h3
   subst this
   rw[Fb rfl,Tr.oks,Tr.encs]
   exact⟨trivial,rfl⟩
  ·by_cases h4:(rd l).code=0
   ·obtain⟨t,sz,e1,e2,e3⟩:=(hr l).1 h4
    obtain⟨k1,k2⟩:=he l t sz e1
    have hs:=Ht hr h3 e1
    rw[hs] at h0⊢
    have h5:(Ch rd (l.drop sz)).code=0:=by
     by_cases h6:(Ch rd (l.drop sz)).code=0
     ·exact h6
     ·rw[Ir h6] at h0;exact absurd h0 h6
    obtain⟨q1,q2⟩:=ih (l.drop sz) (by rw[Ax];omega) h5
    rw[Kx h5,Tr.oks,Tr.encs,q2,k2,List.take_append_drop]
    exact⟨⟨k1,q1⟩,rfl⟩
   ·rw[Nn h3 h4] at h0;exact absurd h0 h4
theorem yE:∀d,RdE (rT d):=by
 intro d
 induction d with
 |zero=>intro l t sz h;simp[rT,TR.bad] at h
 |succ d ih=>
  intro l t sz h
  have hB:=Ef l
  have hI:=nR (l:=l)
  simp only[rT] at h
  generalize hh:rhS l=q at hB hI h
  obtain⟨c1,c2,c3,c4,c5,c6,c7⟩:=hB
  unfold rTH at h
  by_cases k1:q.code≠0
  ·rw[if_pos k1] at h;simp[TR.bad] at h
  rw[if_neg k1] at h
  by_cases k2:l.length<q.size+q.len
  ·rw[if_pos k2] at h;simp[TR.bad] at h
  rw[if_neg k2] at h
  have hI':=hI (Decidable.not_not.1 k1) (by omega)
  by_cases k3:q.k=false
  ·rw[if_pos k3] at h
   simp only[TR.mk.injEq,List.cons.injEq,and_true] at h
   obtain⟨rfl,rfl⟩:=h
   rw[hI',k3,Tr.ok,Tr.enc,Tr.encs,Tr.oks,List.append_nil]
   exact⟨⟨by omega,by omega,trivial⟩,rfl⟩
  rw[if_neg k3] at h
  by_cases k4:(Ch (rT d) ((l.drop q.size).take q.len)).code≠0
  ·rw[if_pos k4] at h;simp[TR.bad] at h
  rw[if_neg k4] at h
  simp only[TR.mk.injEq,List.cons.injEq,and_true] at h
  obtain⟨rfl,rfl⟩:=h
  obtain⟨q1,q2⟩:=yD (Od d) ih _ _ (Nat.le_refl _) (Decidable.not_not.1 k4)
  have kt:q.k=true:=by cases hk:q.k with|true=>rfl|false=>exact absurd hk k3
  rw[hI',kt,Tr.ok,Tr.enc,q2,List.nil_append]
  exact⟨⟨by omega,by omega,q1⟩,rfl⟩
def KB (rd rd':List UInt8→TR):Prop:=∀l,(rd l).code=0→rd' l=rd l
theorem sS {rd rd':List UInt8→TR} (hr:RdT rd) (hr':RdT rd') (hm:KB rd rd'):∀(f:Nat) (l:List UInt8),l.length≤f→(Ch rd l).code=0→Ch rd' l=Ch rd l:=by
 intro f
 induction f with
 |zero=>intro l h _;rw[Fb (by omega),Fb (by omega)]
 |succ f ih=>
  intro l h h0
  by_cases h3:l.length=0
  ·rw[Fb h3,Fb h3]
  ·by_cases h4:(rd l).code=0
   ·obtain⟨t,sz,e1,e2,e3⟩:=(hr l).1 h4
    have hs:=Ht hr h3 e1
    have hs':=Ht hr' h3 ((hm l h4).trans e1)
    rw[hs] at h0
    have h5:(Ch rd (l.drop sz)).code=0:=by
     by_cases h6:(Ch rd (l.drop sz)).code=0
     ·exact h6
     ·rw[Ir h6] at h0;exact absurd h0 h6
    rw[hs,hs',ih (l.drop sz) (by rw[Ax];omega) h5]
   ·rw[Nn h3 h4] at h0;exact absurd h0 h4
theorem EQ:∀d,KB (rT d) (rT (d+1)):=by
 intro d
 induction d with
 |zero=>intro l h;simp[rT,TR.bad] at h
 |succ d ih=>
  intro l h
  rw[rT] at h⊢
  rw[rT]
  generalize rhS l=q at h⊢
  unfold rTH at h⊢
  by_cases k1:q.code≠0
  ·rw[if_pos k1] at h;exact absurd h k1
  rw[if_neg k1] at h⊢
  rw[if_neg k1]
  by_cases k2:l.length<q.size+q.len
  ·rw[if_pos k2] at h;cases h
  rw[if_neg k2] at h⊢
  rw[if_neg k2]
  by_cases k3:q.k=false
  ·rw[if_pos k3,if_pos k3]
  rw[if_neg k3] at h⊢
  rw[if_neg k3]
  by_cases k4:(Ch (rT d) ((l.drop q.size).take q.len)).code≠0
  ·rw[if_pos k4] at h;exact absurd h k4
  have hk:=sS (Od d) (Od (d+1)) ih _ _ (Nat.le_refl _) (Decidable.not_not.1 k4)
  rw[hk]
theorem ER {d e:Nat} (h:d≤e):KB (rT d) (rT e):=by
 obtain⟨k,rfl⟩:=Nat.exists_eq_add_of_le h
 induction k with
 |zero=>intro l _;rfl
 |succ k ih=>
  intro l h0
  have h1:=ih (by omega) l h0
  exact(EQ (d+k) l (by rw[h1];exact h0)).trans h1
def trD (d:Nat) (p:List UInt8):Tr:=(rT d p).l.headD .zero
def One (d:Nat) (p:List UInt8):Prop:=rT d p=⟨[trD d p],p.length,0,0⟩
theorem aR {d:Nat} {p:List UInt8} {t:Tr} (h:rT d p=⟨[t],p.length,0,0⟩):One d p∧trD d p=t:=by
 have:trD d p=t:=by unfold trD;rw[h];rfl
 exact⟨by unfold One;rw[this];exact h,this⟩
theorem One.enc {d:Nat} {p:List UInt8} (h:One d p):(trD d p).ok∧(trD d p).enc=p:=by
 have:=yE d p _ _ h
 rw[List.take_length] at this;exact this
theorem One.mono {d e:Nat} {p:List UInt8} (h:One d p) (hd:d≤e):One e p∧trD e p=trD d p:=by
 have h0:(rT d p).code=0:=by rw[h]
 exact aR ((ER hd p h0).trans h)
theorem Mv {p:List UInt8} (h:Ek p=true):One 16 p:=by
 rw[nU] at h
 unfold fC at h
 obtain⟨t,-,h2⟩:=(Oe 16 p).1 (by simpa using h)
 exact(aR h2).1
theorem One.tv {d:Nat} {p:List UInt8} (h:One d p) (hl:p.length≤2147483647):∃t:Tv,t.ok∧p=t.enc:=by
 obtain⟨h1,h2⟩:=h.enc
 generalize trD d p=t at h1 h2
 obtain⟨c,n,k,b,ks⟩:=t
 rw[Tr.ok] at h1
 rw[Tr.enc] at h2
 refine⟨⟨c,n,k,b++Tr.encs ks⟩,⟨h1.1,h1.2.1,?_⟩,h2.symm⟩
 have:=congrArg List.length h2
 rw[E8] at this
 show(b++Tr.encs ks).length≤_
 omega
theorem One.more {d:Nat} {p:List UInt8} (h:One d p) (hl:p.length≤2147483647) (r:List UInt8):rT d (p++r)=⟨[trD d p],p.length,0,0⟩:=by
 obtain⟨t,ht,he⟩:=h.tv hl
 have hr:rhS (p++r)=rhS p:=by
  rw[he,Tv.rh ht]
  have:=Tv.rh ht []
  rw[List.append_nil] at this
  exact this.symm
 have hp:rhS p=⟨t.c,t.n,t.k,t.v.length,t.hd,0,0⟩:=by
  have:=Tv.rh ht []
  rw[List.append_nil,←he] at this;exact this
 have hlen:p.length=t.hd+t.v.length:=by rw[he];exact t.len
 cases d with
 |zero=>unfold One at h;simp[rT,TR.bad] at h
 |succ d=>
  unfold One at h
  rw[←h,rT,rT,hr,hp]
  unfold rTH
  simp only
  have e1:((p++r).drop t.hd).take t.v.length=(p.drop t.hd).take t.v.length:=by
   rw[List.drop_append_of_le_length (by omega),List.take_append_of_le_length (by rw[Ax];omega)]
  rw[if_neg (by simp),if_neg (show¬(p++r).length<t.hd+t.v.length by rw[Ak];omega),if_neg (show¬p.length<t.hd+t.v.length by omega),e1]
  exact(if_neg (fun h=>h rfl)).symm
theorem fH (d:Nat):∀(ps:List (List UInt8)),(∀p∈ps,One d p∧p.length≤2147483647)→Ch (rT d) ps.flatten=⟨ps.map (trD d),0,0,0⟩
 |[],_=>Fb rfl
 |p::ps,h=>by
  obtain⟨h1,h2⟩:=h p (by simp)
  have hm:=h1.more h2 ps.flatten
  have ih:=fH d ps fun q hq=>h q (by simp[hq])
  have hpos:p.length≠0:=by
   obtain⟨t,sz,e1,e2,e3⟩:=(Od d p).1 (by rw[h1])
   omega
  rw[List.flatten_cons,Ht (Od d) (by rw[Ak];omega) hm,List.drop_left,ih,Kx rfl]
  rfl
theorem Lg {d c n:Nat} (ps:List (List UInt8)) (hc:c≤3) (hn:n≤30) (h:∀p∈ps,One d p∧p.length≤2147483647) (hl:ps.flatten.length≤2147483600):One (d+1) (Ah c n true ps.flatten)∧trD (d+1) (Ah c n true ps.flatten)= .mk c n true [] (ps.map (trD d)):=by
 obtain⟨t,ht⟩:∃t:Tv,t=⟨c,n,true,ps.flatten⟩:=⟨_,rfl⟩
 have hOk:t.ok:=by subst ht;exact⟨hc,hn,by show ps.flatten.length≤_;omega⟩
 have he:Ah c n true ps.flatten=t.enc:=by subst ht;rfl
 have hv:t.v=ps.flatten:=by subst ht;rfl
 have hr:=Tv.rh hOk []
 rw[List.append_nil] at hr
 have hlen:=t.len
 refine aR ?_
 rw[he,rT,hr]
 unfold rTH
 simp only
 rw[if_neg (by simp),if_neg (by omega),if_neg (by subst ht;simp),t.body,List.take_length,hv,fH d ps h,if_neg (by simp)]
 subst ht
 simp only[TR.mk.injEq,and_true,true_and]
 rw[hlen]
theorem V2 {d c n:Nat} (l:List UInt8) (hc:c≤3) (hn:n≤30) (hl:l.length≤2147483600):One (d+1) (Ah c n false l)∧trD (d+1) (Ah c n false l)= .mk c n false l []:=by
 obtain⟨t,ht⟩:∃t:Tv,t=⟨c,n,false,l⟩:=⟨_,rfl⟩
 have hOk:t.ok:=by subst ht;exact⟨hc,hn,by show l.length≤_;omega⟩
 have he:Ah c n false l=t.enc:=by subst ht;rfl
 have hv:t.v=l:=by subst ht;rfl
 have hr:=Tv.rh hOk []
 rw[List.append_nil] at hr
 have hlen:=t.len
 refine aR ?_
 rw[he,rT,hr]
 unfold rTH
 simp only
 rw[if_neg (by simp),if_neg (by omega),if_pos (by subst ht;rfl),t.body,List.take_length,hv]
 subst ht
 simp only[TR.mk.injEq,and_true,true_and]
 rw[hlen]
theorem Tn:∀(ts:List Tv) (b pre:List UInt8) (en:Nat),b.take en=pre++Di ts→en≤b.length→(els pre.length ts).map (elO b)=ts.map Tv.enc
 |[],_,_,_,_,_=>rfl
 |t::r,b,pre,en,h,hen=>by
  have h':b.take en=(pre++t.enc)++Di r:=by rw[h,Dg,List.append_assoc]
  have ih:=Tn r b (pre++t.enc) en h' hen
  rw[Ak] at ih
  rw[els,List.map_cons,ih,List.map_cons]
  congr 1
  unfold elO Tv.el
  simp only
  have hl:=congrArg List.length h
  rw[Ao,Dg,Ak,Ak] at hl
  have e1:(b.drop pre.length).take (pre.length+t.enc.length-pre.length)=((b.take en).drop pre.length).take t.enc.length:=by
   rw[List.drop_take,List.take_take];congr 1;omega
  rw[e1,h,List.drop_left,Dg,List.take_left]
theorem Gt {c n:Nat} (ts:List Tv) (hc:c≤3) (hn:n≤30) (ht:∀t∈ts,t.ok) (hl:(Di ts).length≤2147483600):∃h:Nat,Bc (Ah c n true (Di ts)) c n=⟨els h ts,0,0⟩∧(els h ts).map (elO (Ah c n true (Di ts)))=ts.map Tv.enc:=by
 obtain⟨t,e⟩:∃t:Tv,t=⟨c,n,true,Di ts⟩:=⟨_,rfl⟩
 have hOk:t.ok:=by subst e;exact⟨hc,hn,by show(Di ts).length≤_;omega⟩
 have he:Ah c n true (Di ts)=t.enc:=by subst e;rfl
 have hv:t.v=Di ts:=by subst e;rfl
 have hi:(t.el 0).isB c n true=true:=by subst e;simp[El.isB,Tv.el]
 have hlen:=t.len
 have hpre:(t.enc.take t.hd).length=t.hd:=by rw[Ao];omega
 have hcat:t.enc.take t.enc.length=t.enc.take t.hd++Di ts:=by
  rw[List.take_length,←hv,←t.body,List.take_append_drop]
 refine⟨t.hd,?_,?_⟩
 ·rw[he]
  unfold Bc
  rw[H2 hOk,if_neg (by simp)]
  simp only[hi]
  rw[if_neg (by simp)]
  show Cy t.enc (0+t.hd) (0+t.enc.length)=_
  have:=Np ts t.enc (t.enc.take t.hd) t.enc.length ht hcat (Nat.le_refl _)
  rw[hpre] at this
  rw[Nat.zero_add,Nat.zero_add,this]
 ·rw[he]
  have:=Tn ts t.enc (t.enc.take t.hd) t.enc.length hcat (Nat.le_refl _)
  rwa[hpre] at this
theorem Ky {b:List UInt8} {c n:Nat} (h:(Bc b c n).code=0):∃ts:List Tv,(∀t∈ts,t.ok)∧b=Ah c n true (Di ts)∧c≤3∧n≤30∧(Di ts).length≤2147483647:=by
 unfold Bc at h
 by_cases h1:(Bh b).code≠0
 ·rw[if_pos h1] at h;exact absurd h h1
 rw[if_neg h1] at h
 by_cases h2:(Bh b).x.isB c n true=false
 ·rw[if_pos h2] at h;cases h
 rw[if_neg h2] at h
 obtain⟨t,t1,t2,t3⟩:=Qj (Decidable.not_not.1 h1)
 rw[t2] at h h2
 have hb:(t.el 0).isB c n true=true:=by simpa using h2
 unfold El.isB Tv.el at hb
 simp only[At,beq_iff_eq] at hb
 obtain⟨⟨b1,b2⟩,b3⟩:=hb
 have hlen:=t.len
 have h':(Cy b (0+t.hd) (0+t.enc.length)).code=0:=h
 rw[Nat.zero_add,Nat.zero_add] at h'
 obtain⟨ts,q1,-,q3⟩:=Ru _ b t.hd t.enc.length (Nat.le_refl _) (by omega) (by rw[t3];omega) h'
 have hv:(b.drop t.hd).take (t.enc.length-t.hd)=t.v:=by
  rw[t3,t.body];exact List.take_of_length_le (by omega)
 rw[hv] at q3
 have a1:=t1.c
 have a2:=t1.n
 have a3:=t1.v
 refine⟨ts,q1,?_,by omega,by omega,by rw[←q3];exact a3⟩
 rw[t3,Tv.enc,q3]
 rw[b1,b2,b3]
theorem KC (b:List UInt8) (a:Nat) (t:Tv):bod b (t.el a)=(elO b (t.el a)).drop t.hd:=by
 unfold bod elO Tv.el
 simp only
 rw[List.drop_take,List.drop_drop]
 congr 1
 omega
theorem fI (x y:Tv) (hx:x.ok) (hy:y.ok) (hl:(Di [x,y]).length≤2147483600):fG (Ah 0 16 true (Di [x,y]))=if(x.el 0).isB 0 6 false=true∧odC x.v=0 then some (odT x.v,y.enc) else none:=by
 obtain⟨h,e1,e2⟩:=Gt (c:=0) (n:=16) [x,y] (by omega) (by omega) (fun t ht=>by
  rcases List.mem_cons.1 ht with rfl|ht
  ·exact hx
  ·rw[List.mem_singleton.1 ht];exact hy) hl
 unfold fG
 rw[e1]
 simp only[els,List.map_cons,List.map_nil,List.cons.injEq,and_true] at e2
 show(if(x.el h).isB 0 6 false=true∧odC (bod _ (x.el h))=0 then some (odT (bod _ (x.el h)),elO _ (y.el (h+x.enc.length))) else none)=_
 rw[KC,e2.1,x.body,e2.2]
 rfl
theorem To:∀{l:List (List UInt8)},(∀p∈l,∃t:Tv,t.ok∧p=t.enc)→∃ts:List Tv,(∀t∈ts,t.ok)∧l=ts.map Tv.enc
 |[],_=>⟨[],by simp,rfl⟩
 |p::r,h=>by
  obtain⟨t,h1,h2⟩:=h p (by simp)
  obtain⟨ts,h3,h4⟩:=To (l:=r) fun q hq=>h q (by simp[hq])
  exact⟨t::ts,fun u hu=>by
   rcases List.mem_cons.1 hu with rfl|hu
   ·exact h1
   ·exact h3 u hu,by rw[List.map_cons,h2,h4]⟩
theorem Fq (ts:List Tv):Di ts=(ts.map Tv.enc).flatten:=List.flatMap_def ..
theorem lI {b:List UInt8} {r:LR} {w:List UInt8×List UInt8} (h:fF b r=some w):r.code=0∧r.l.length=2:=by
 refine⟨?_,?_⟩
 ·refine Decidable.byContradiction fun hc=> ?_
  rw[aP (.inl hc)] at h;cases h
 ·refine Decidable.byContradiction fun hc=> ?_
  rw[aP (.inr hc)] at h;cases h
theorem aS (a:Nat) (ts:List Tv):(els a ts).length=ts.length:=by
 induction ts generalizing a with
 |nil=>rfl
 |cons t r ih=>rw[els,Ag,ih,Ag]
theorem fJ (l:Bool) (n:Nat):1≤(Cm l n).length:=by
 rw[Cm];split<;>simp
theorem Ss:∀l:List Nat,l.length≤(l.flatMap (Cm true)).length
 |[]=>by simp
 |n::r=>by
  have:=fJ true n
  have:=Ss r
  rw[List.flatMap_cons,Ak,Ag];omega
theorem Qk (c:List UInt8):(odT c).length≤21*(c.length+1):=by
 unfold odT
 cases hd:Mk c with
 |none=>simp
 |some a=>
  obtain⟨k1,k2,k3⟩:=Yg hd
  have h1:=Ks a k2
  obtain⟨x,y,r,rfl,-⟩:=Ew k1
  have h2:=fJ true (40*x+y)
  have h3:=Ss r
  rw[←k3,Mj,Ak]
  simp only[Ag] at h1
  show(Cb (x::y::r)).length≤_
  omega
theorem Tr.enc_two (t:Tr):2≤t.enc.length:=by
 cases t with
 |mk c n k b ks=>
  rw[Tr.enc,E8]
  have:1≤(Fh (b++Tr.encs ks).length).length:=by
   unfold Fh
   split
   ·rename_i h;rw[C5 (by omega)];simp
   ·simp
  omega
theorem Tr.encs_two:∀l:List Tr,2*l.length≤(Tr.encs l).length
 |[]=>by simp
 |s::r=>by
  have:=s.enc_two
  have:=Tr.encs_two r
  rw[Tr.encs,Ag,Ak];omega
theorem Tr.mem_le {s:Tr}:∀{l:List Tr},s∈l→s.enc.length≤(Tr.encs l).length
 |x::r,h=>by
  rw[Tr.encs,Ak]
  rcases List.mem_cons.1 h with rfl|h
  ·omega
  ·have:=Tr.mem_le h;omega
theorem Tr.parts (t:Tr):t.v.length+(Tr.encs t.ks).length≤t.enc.length:=by
 cases t with
 |mk c n k b ks=>
  rw[Tr.enc,E8,Ak]
  show b.length+(Tr.encs ks).length≤_
  omega
theorem Tr.ok_ks {t:Tr} (h:t.ok):Tr.oks t.ks:=by
 cases t with
 |mk c n k b ks=>rw[Tr.ok] at h;exact h.2.2
theorem ES (b:List UInt8):(Cq b).ok∧(Cq b).enc.length≤b.length+2:=by
 have hW:=Oe 60 b
 by_cases h:(Db 60 b).code=0
 ·obtain⟨t,h1,h2⟩:=hW.1 h
  have he:=yE 60 b _ _ h2
  rw[List.take_length] at he
  have:Cq b=t:=by unfold Cq;rw[h1];rfl
  rw[this,he.2]
  exact⟨he.1,by omega⟩
 ·have:Cq b= .zero:=by unfold Cq TR.tree;rw[(hW.2 h).1];rfl
  rw[this,Tr.zero,Tr.ok,Tr.oks]
  exact⟨⟨by omega,by omega,trivial⟩,by
   have:(Tr.mk 0 0 false [] []).enc.length=2:=by decide+kernel
   rw[this];omega⟩
theorem J8 {t:Tr} (h:t.ok) (i:Nat):(t.kid i).ok∧(t.kid i).enc.length≤t.enc.length+2:=by
 have hp:=t.parts
 unfold Tr.kid
 rw[List.getD_eq_getElem?_getD]
 cases hk:t.ks[i]? with
 |none=>
  show Tr.zero.ok∧Tr.zero.enc.length≤_
  rw[Tr.zero,Tr.ok,Tr.oks]
  exact⟨⟨by omega,by omega,trivial⟩,by
   have:(Tr.mk 0 0 false [] []).enc.length=2:=by decide+kernel
   rw[this];omega⟩
 |some k=>
  have hm:=Bi hk
  have:=Tr.mem_le hm
  exact⟨Tr.oks_mem (Tr.ok_ks h) k hm,by show k.enc.length≤_;omega⟩
end Go.Proofs.YtaoahmplnckhpaaGreatDoor
