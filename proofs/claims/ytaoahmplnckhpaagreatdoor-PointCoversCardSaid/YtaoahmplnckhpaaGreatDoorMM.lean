/- MM: the texts Link MulR MulP MulQ MulS MulC MulT MulL MulI MulJ MulK MulW MulX, one behind the other. No condition but what each lemma says. -/
import Derived.Test.YtaoahmplnckhpaaGreatDoorMJ
import Derived.Test.YtaoahmplnckhpaaGreatDoorMH
set_option maxRecDepth 100000
set_option maxHeartbeats 16000000
namespace Go.Proofs.YtaoahmplnckhpaaGreatDoor
open Go.RowKit
theorem dS (x:S) (r:SR):(R5 x r).code=r.code:=by
 by_cases h:r.code=0
 ·rw[Nk h,h]
 ·rw[K9 h]
theorem dT (sz:Nat) (x:Tr) (r:TR):(T8 sz x r).code=r.code:=by
 by_cases h:r.code=0
 ·rw[Kh h,h]
 ·rw[G2 h];rfl
def Agr (rd:Nat→SR) (rt:List UInt8→TR) (b:List UInt8) (en:Nat):Prop:=∀p,p≤en→(rd p).code=(rt ((b.drop p).take (en-p))).code∧∀s t sz,rd p=⟨[s],0,0⟩→rt ((b.drop p).take (en-p))=⟨[t],sz,0,0⟩→s.stop=p+sz
theorem mH {rd:Nat→SR} {rt:List UInt8→TR} {b:List UInt8} {en:Nat} (hen:en≤b.length) (hs:Rds rd en) (ht:RdT rt) (ha:Agr rd rt b en):∀(f p:Nat),p≤en→(Fw rd en f p).code=(kT rt f ((b.drop p).take (en-p))).code:=by
 intro f
 induction f with
 |zero=>intro p _;rfl
 |succ f ih=>
  intro p hp
  have hl:((b.drop p).take (en-p)).length=en-p:=by rw[Al,Aw];omega
  by_cases h3:p<en
  ·have h0:((b.drop p).take (en-p)).length≠0:=by omega
   obtain⟨a1,a2⟩:=ha p hp
   by_cases h4:(rd p).code=0
   ·obtain⟨s,e1,e2,e3⟩:=(hs p hp).1 h4
    obtain⟨t,sz,q1,q2,q3⟩:=(ht _).1 (a1▸h4)
    have hst:=a2 s t sz e1 q1
    rw[Iw h3 e1,Wc h0 q1,dS,dT,hst,ih (p+sz) (by omega),List.drop_take,List.drop_drop,show en-p-sz=en-(p+sz) by omega]
   ·rw[Kf h3 h4,gL h0 (a1▸h4)];exact a1
  ·rw[F9 h3,Ol (by omega)]
theorem mI (b:List UInt8):∀(d en:Nat),en≤b.length→Agr (fun p=>Bg b d p en) (rT d) b en:=by
 intro d
 induction d with
 |zero=>intro en _ p _;exact⟨rfl,fun s t sz h=>by simp[Bg,SR.bad] at h⟩
 |succ d ih=>
  intro en hen p hp
  have hl:((b.drop p).take (en-p)).length=en-p:=by rw[Al,Aw];omega
  have hB:=D2 ((b.drop p).take (en-p))
  rw[hl] at hB
  simp only[Bg,rT]
  generalize hh:rhS ((b.drop p).take (en-p))=h at hB⊢
  obtain⟨c1,c2,c3,c4,c5,c6,c7⟩:=hB
  unfold Ix rTH
  by_cases k1:h.code≠0
  ·rw[if_pos k1,if_pos k1]
   exact⟨rfl,fun s t sz h'=>by simp[SR.bad] at h'⟩
  rw[if_neg k1,if_neg k1,hl]
  by_cases k2:en-p<h.size+h.len
  ·rw[if_pos k2,if_pos k2]
   exact⟨rfl,fun s t sz h'=>by simp[SR.bad] at h'⟩
  rw[if_neg k2,if_neg k2]
  by_cases k3:h.k=false
  ·rw[if_pos k3,if_pos k3]
   refine⟨rfl,fun s t sz h1 h2=> ?_⟩
   simp only[SR.mk.injEq,TR.mk.injEq,List.cons.injEq,and_true] at h1 h2
   rw[←h1,←h2.2];simp only[S.stop];omega
  rw[if_neg k3,if_neg k3]
  have e1:(((b.drop p).take (en-p)).drop h.size).take h.len=(b.drop (p+h.size)).take (p+h.size+h.len-(p+h.size)):=by
   rw[List.drop_take,List.drop_drop,List.take_take]
   congr 1;omega
  have hK:(Db (Bg b d) (p+h.size) (p+h.size+h.len)).code=(Bq (rT d) ((((b.drop p).take (en-p)).drop h.size).take h.len)).code:=by
   rw[e1,Bq,show((b.drop (p+h.size)).take (p+h.size+h.len-(p+h.size))).length=p+h.size+h.len-(p+h.size) by rw[Al,Aw];omega]
   exact mH (by omega) (Fh b d _ (by omega)) (Pf d) (ih (p+h.size+h.len) (by omega)) _ (p+h.size) (by omega)
  by_cases k4:(Db (Bg b d) (p+h.size) (p+h.size+h.len)).code≠0
  ·rw[if_pos k4,if_pos (hK▸k4)]
   exact⟨hK,fun s t sz h'=>by simp[SR.bad] at h'⟩
  ·rw[if_neg k4,if_neg (hK▸k4)]
   refine⟨rfl,fun s t sz h1 h2=> ?_⟩
   simp only[SR.mk.injEq,TR.mk.injEq,List.cons.injEq,and_true] at h1 h2
   rw[←h1,←h2.2];simp only[S.stop];omega
theorem dU (b:List UInt8):(D0 b).code=(D5 16 b).code:=by
 have hA:=mI b 16 b.length (Nat.le_refl _) 0 (Nat.zero_le _)
 rw[List.drop_zero,Nat.sub_zero,List.take_length] at hA
 obtain⟨a1,a2⟩:=hA
 have hF:=Fh b 16 b.length (by omega) 0 (by omega)
 dsimp only at hF a1 a2
 have hT:=Pf 16 b
 unfold D0 D5
 by_cases h:(Bg b 16 0 b.length).code=0
 ·obtain⟨s,e1,e2,e3⟩:=hF.1 h
  obtain⟨t,sz,q1,q2,q3⟩:=hT.1 (a1▸h)
  have hst:=a2 s t sz e1 q1
  rw[e1,q1]
  by_cases h3:s.stop<b.length
  ·rw[Gl h3,Ki (by omega)];rfl
  ·rw[Iy h3,Om (by omega)]
 ·have h':=hT.2 (a1▸h)
  have h1:Bg b 16 0 b.length=⟨[],(Bg b 16 0 b.length).code,(Bg b 16 0 b.length).off⟩:=by
   have:=(hF.2 h).2
   generalize Bg b 16 0 b.length=r at this⊢
   obtain⟨l,c,o⟩:=r
   simp only at this;rw[this]
  have h2:rT 16 b=⟨[],0,(rT 16 b).code,(rT 16 b).off⟩:=by
   have h5:=h'.2.1;have h6:=h'.2.2.1
   generalize rT 16 b=r at h5 h6⊢
   obtain⟨l,z,c,o⟩:=r
   simp only at h5 h6;rw[h5,h6]
  rw[h1,h2,Hb,L9]
  simp only[SR.bad,TR.bad]
  rw[a1]
theorem gN (b:List UInt8):Ek b=Zg b:=by unfold Ek Zg;rw[dU]
theorem Ma (b:List UInt8) (hb:b.length≤1000000000):Ac Tryz.prog 143 [.d (Af false b)] (fun r=>r=bv (Ek b)):=by rw[gN];exact mF b hb
def rW (ps:List (List UInt8)):D:=Ey true 1 Jo ps
theorem Ub (ps:List (List UInt8)):(rW ps).un=Dz ps:=by
 show D.sl false ps.length 1 (D.uns (ps.flatMap Jo))=_
 rw[Be];rfl
theorem Ga {b:List UInt8} {c n:Nat} {x:El} (h:x∈(A6 b c n).l):x.at'+2≤x.body∧x.body≤x.stop∧x.stop≤b.length:=by
 have hF:=D3 b
 unfold A6 at h
 split at h
 ·cases h
 ·split at h
  ·cases h
  ·have:=Yp hF.2.2.2.2.2.1 h
   omega
theorem R7 (b:List UInt8) (c n:Nat):(A6 b c n).l.length≤b.length:=by
 have hF:=D3 b
 unfold A6
 split
 ·exact Nat.zero_le _
 ·split
  ·exact Nat.zero_le _
  ·have:=Ty (b:=b) hF.2.2.2.2.2.1 ((Bb b).x.stop-(Bb b).x.body) (Bb b).x.body
   exact Nat.le_trans this (by omega)
theorem No {α β:Type} (f:α→β) {l:List α} {i:Nat} {x:α} (h:l[i]?=some x):(l.take (i+1)).map f=(l.take i).map f++[f x]:=by
 obtain⟨hlt,he⟩:=As.1 h
 rw[List.take_succ_eq_append_getElem hlt,he,List.map_append];rfl
theorem mJ {b:List UInt8} {en:Nat} (hen:en≤b.length):∀(f p:Nat),p≤en→(Ds b en f p).off≤b.length:=by
 intro f
 induction f with
 |zero=>intro p _;exact Nat.zero_le _
 |succ f ih=>
  intro p hp
  rw[Ds]
  have hF:=Fd b p en hp hen
  split
  ·split
   ·show(nxS b p en).off≤_
    have:=hF.2.2.1
    omega
   ·rename_i h1
    have:=hF.1 (by omega)
    split
    ·exact ih _ (by omega)
    ·exact Nat.zero_le _
  ·exact Nat.zero_le _
theorem Mb (b:List UInt8) (c n:Nat):(A6 b c n).off≤b.length:=by
 have hF:=D3 b
 unfold A6
 split
 ·exact hF.2.2.1
 ·split
  ·exact Nat.zero_le _
  ·exact mJ hF.2.2.2.2.2.1 _ _ hF.2.2.2.2.2.2
def bod (b:List UInt8) (x:El):List UInt8:=(b.drop x.body).take (x.stop-x.body)
def gO (b:List UInt8):LR→Option (List UInt8×List UInt8)
 |⟨[x,y],0,_⟩=>if x.isB 0 6 false=true∧odC (bod b x)=0 then some (odT (bod b x),elO b y) else none
 |_=>none
def rX (b:List UInt8):Option (List UInt8×List UInt8):=gO b (A6 b 0 16)
theorem xB {b:List UInt8} {r:LR} (h:r.code≠0∨r.l.length≠2):gO b r=none:=by
 obtain⟨l,c,o⟩:=r
 match l,c with
 |[x,y],0=>rcases h with h|h<;>simp at h
 |[x,y],c+1=>rfl
 |[],0=>rfl
 |[],c+1=>rfl
 |[x],0=>rfl
 |[x],c+1=>rfl
 |x::y::z::r,0=>rfl
 |x::y::z::r,c+1=>rfl
theorem Uc {α:Type} {l:List α} {i:Nat} {x:α} (h:l[i]?=some x):l.drop i=x::l.drop (i+1):=by
 obtain⟨hlt,he⟩:=As.1 h
 rw[List.drop_eq_getElem_cons hlt,he]
theorem Wg {α:Type} {a b:List α} {i:Nat} {x:α} (h:a.take i=b.take i) (h1:a[i]?=some x) (h2:b[i]?=some x):a.take (i+1)=b.take (i+1):=by
 obtain⟨l1,e1⟩:=As.1 h1
 obtain⟨l2,e2⟩:=As.1 h2
 rw[List.take_succ_eq_append_getElem l1,List.take_succ_eq_append_getElem l2,h,e1,e2]
theorem rY {α:Type} {a b:List α} {i:Nat} {x y:α} (h1:a[i]?=some x) (h2:b[i]?=some y) (h:x≠y):a≠b:=fun e=>by
 subst e;rw[h1] at h2;exact h (Option.some.inj h2)
theorem dV {α:Type} {a b:List α} {i:Nat} (h:a.take i=b.take i) (hi:¬(i<a.length∧i<b.length)) (_:i≤a.length) (_:i≤b.length) (he:a.length=b.length):a=b:=by
 have h1:a.take i=a:=List.take_of_length_le (by omega)
 have h2:b.take i=b:=List.take_of_length_le (by omega)
 rw[←h1,←h2,h]
structure Mu.md (m:Mu):Prop where
 o:m.oid.length≤1000000000
 n:m.vs.length≤1000000
 v:∀p∈m.vs,p.length≤1000000000
deriving instance DecidableEq for Mu
def RdE (rd:List UInt8→TR):Prop:=∀l t sz,rd l=⟨[t],sz,0,0⟩→t.ok∧t.enc=l.take sz
theorem rZ {rd:List UInt8→TR} (hr:RdT rd) (he:RdE rd):∀(f:Nat) (l:List UInt8),l.length≤f→(Bq rd l).code=0→Tr.oks (Bq rd l).l∧Tr.encs (Bq rd l).l=l:=by
 intro f
 induction f with
 |zero=>
  intro l h _
  have:l=[]:=List.eq_nil_of_length_eq_zero (by omega)
  subst this
  rw[En rfl,Tr.oks,Tr.encs]
  exact⟨trivial,rfl⟩
 |succ f ih=>
  intro l h h0
  by_cases h3:l.length=0
  ·have:l=[]:=List.eq_nil_of_length_eq_zero h3
   subst this
   rw[En rfl,Tr.oks,Tr.encs]
   exact⟨trivial,rfl⟩
  ·by_cases h4:(rd l).code=0
   ·obtain⟨t,sz,e1,e2,e3⟩:=(hr l).1 h4
    obtain⟨k1,k2⟩:=he l t sz e1
    have hs:=Hc hr h3 e1
    rw[hs] at h0⊢
    have h5:(Bq rd (l.drop sz)).code=0:=by
     by_cases h6:(Bq rd (l.drop sz)).code=0
     ·exact h6
     ·rw[G2 h6] at h0;exact absurd h0 h6
    obtain⟨q1,q2⟩:=ih (l.drop sz) (by rw[Aw];omega) h5
    rw[Kh h5,Tr.oks,Tr.encs,q2,k2,List.take_append_drop]
    exact⟨⟨k1,q1⟩,rfl⟩
   ·rw[La h3 h4] at h0;exact absurd h0 h4
theorem BP:∀d,RdE (rT d):=by
 intro d
 induction d with
 |zero=>intro l t sz h;simp[rT,TR.bad] at h
 |succ d ih=>
  intro l t sz h
  have hB:=D2 l
  have hI:=wZ (l:=l)
  simp only[rT] at h
  generalize hh:rhS l=q at hB hI h
  obtain⟨c1,c2,c3,c4,c5,c6,c7⟩:=hB
  unfold rTH at h
  by_cases k1:q.code≠0
  ·rw[if_pos k1] at h;simp[TR.bad] at h
  rw[if_neg k1] at h
  by_cases k2:l.length<q.size+q.len
  ·rw[if_pos k2] at h;simp[TR.bad] at h
  rw[if_neg k2] at h
  have hI':=hI (Decidable.not_not.1 k1) (by omega)
  by_cases k3:q.k=false
  ·rw[if_pos k3] at h
   simp only[TR.mk.injEq,List.cons.injEq,and_true] at h
   obtain⟨rfl,rfl⟩:=h
   rw[hI',k3,Tr.ok,Tr.enc,Tr.encs,Tr.oks,List.append_nil]
   exact⟨⟨by omega,by omega,trivial⟩,rfl⟩
  rw[if_neg k3] at h
  by_cases k4:(Bq (rT d) ((l.drop q.size).take q.len)).code≠0
  ·rw[if_pos k4] at h;simp[TR.bad] at h
  rw[if_neg k4] at h
  simp only[TR.mk.injEq,List.cons.injEq,and_true] at h
  obtain⟨rfl,rfl⟩:=h
  obtain⟨q1,q2⟩:=rZ (Pf d) ih _ _ (Nat.le_refl _) (Decidable.not_not.1 k4)
  have kt:q.k=true:=by cases hk:q.k with|true=>rfl|false=>exact absurd hk k3
  rw[hI',kt,Tr.ok,Tr.enc,q2,List.nil_append]
  exact⟨⟨by omega,by omega,q1⟩,rfl⟩
def BQ (rd rd':List UInt8→TR):Prop:=∀l,(rd l).code=0→rd' l=rd l
theorem mK {rd rd':List UInt8→TR} (hr:RdT rd) (hr':RdT rd') (hm:BQ rd rd'):∀(f:Nat) (l:List UInt8),l.length≤f→(Bq rd l).code=0→Bq rd' l=Bq rd l:=by
 intro f
 induction f with
 |zero=>intro l h _;rw[En (by omega),En (by omega)]
 |succ f ih=>
  intro l h h0
  by_cases h3:l.length=0
  ·rw[En h3,En h3]
  ·by_cases h4:(rd l).code=0
   ·obtain⟨t,sz,e1,e2,e3⟩:=(hr l).1 h4
    have hs:=Hc hr h3 e1
    have hs':=Hc hr' h3 ((hm l h4).trans e1)
    rw[hs] at h0
    have h5:(Bq rd (l.drop sz)).code=0:=by
     by_cases h6:(Bq rd (l.drop sz)).code=0
     ·exact h6
     ·rw[G2 h6] at h0;exact absurd h0 h6
    rw[hs,hs',ih (l.drop sz) (by rw[Aw];omega) h5]
   ·rw[La h3 h4] at h0;exact absurd h0 h4
theorem xC:∀d,BQ (rT d) (rT (d+1)):=by
 intro d
 induction d with
 |zero=>intro l h;simp[rT,TR.bad] at h
 |succ d ih=>
  intro l h
  rw[rT] at h⊢
  rw[rT]
  generalize rhS l=q at h⊢
  unfold rTH at h⊢
  by_cases k1:q.code≠0
  ·rw[if_pos k1] at h;exact absurd h k1
  rw[if_neg k1] at h⊢
  rw[if_neg k1]
  by_cases k2:l.length<q.size+q.len
  ·rw[if_pos k2] at h;cases h
  rw[if_neg k2] at h⊢
  rw[if_neg k2]
  by_cases k3:q.k=false
  ·rw[if_pos k3,if_pos k3]
  rw[if_neg k3] at h⊢
  rw[if_neg k3]
  by_cases k4:(Bq (rT d) ((l.drop q.size).take q.len)).code≠0
  ·rw[if_pos k4] at h;exact absurd h k4
  have hk:=mK (Pf d) (Pf (d+1)) ih _ _ (Nat.le_refl _) (Decidable.not_not.1 k4)
  rw[hk]
theorem xD {d e:Nat} (h:d≤e):BQ (rT d) (rT e):=by
 obtain⟨k,rfl⟩:=Nat.exists_eq_add_of_le h
 induction k with
 |zero=>intro l _;rfl
 |succ k ih=>
  intro l h0
  have h1:=ih (by omega) l h0
  exact(xC (d+k) l (by rw[h1];exact h0)).trans h1
def trD (d:Nat) (p:List UInt8):Tr:=(rT d p).l.headD .zero
def One (d:Nat) (p:List UInt8):Prop:=rT d p=⟨[trD d p],p.length,0,0⟩
theorem sA {d:Nat} {p:List UInt8} {t:Tr} (h:rT d p=⟨[t],p.length,0,0⟩):One d p∧trD d p=t:=by
 have:trD d p=t:=by unfold trD;rw[h];rfl
 exact⟨by unfold One;rw[this];exact h,this⟩
theorem One.enc {d:Nat} {p:List UInt8} (h:One d p):(trD d p).ok∧(trD d p).enc=p:=by
 have:=BP d p _ _ h
 rw[List.take_length] at this;exact this
theorem One.mono {d e:Nat} {p:List UInt8} (h:One d p) (hd:d≤e):One e p∧trD e p=trD d p:=by
 have h0:(rT d p).code=0:=by rw[h]
 exact sA ((xD hd p h0).trans h)
theorem sB {p:List UInt8} (h:Ek p=true):One 16 p:=by
 rw[gN] at h
 unfold Zg at h
 obtain⟨t,-,h2⟩:=(S9 16 p).1 (by simpa using h)
 exact(sA h2).1
theorem One.tv {d:Nat} {p:List UInt8} (h:One d p) (hl:p.length≤2147483647):∃t:Tv,t.ok∧p=t.enc:=by
 obtain⟨h1,h2⟩:=h.enc
 generalize trD d p=t at h1 h2
 obtain⟨c,n,k,b,ks⟩:=t
 rw[Tr.ok] at h1
 rw[Tr.enc] at h2
 refine⟨⟨c,n,k,b++Tr.encs ks⟩,⟨h1.1,h1.2.1,?_⟩,h2.symm⟩
 have:=congrArg List.length h2
 rw[Nn] at this
 show(b++Tr.encs ks).length≤_
 omega
theorem P5:∀(ts:List Tv) (b pre:List UInt8) (en:Nat),b.take en=pre++Dg ts→en≤b.length→(els pre.length ts).map (elO b)=ts.map Tv.enc
 |[],_,_,_,_,_=>rfl
 |t::r,b,pre,en,h,hen=>by
  have h':b.take en=(pre++t.enc)++Dg r:=by rw[h,D1,List.append_assoc]
  have ih:=P5 r b (pre++t.enc) en h' hen
  rw[Aj] at ih
  rw[els,List.map_cons,ih,List.map_cons]
  congr 1
  unfold elO Tv.el
  simp only
  have hl:=congrArg List.length h
  rw[Al,D1,Aj,Aj] at hl
  have e1:(b.drop pre.length).take (pre.length+t.enc.length-pre.length)=((b.take en).drop pre.length).take t.enc.length:=by
   rw[List.drop_take,List.take_take];congr 1;omega
  rw[e1,h,List.drop_left,D1,List.take_left]
theorem Lc {c n:Nat} (ts:List Tv) (hc:c≤3) (hn:n≤30) (ht:∀t∈ts,t.ok) (hl:(Dg ts).length≤2147483600):∃h:Nat,A6 (Ao c n true (Dg ts)) c n=⟨els h ts,0,0⟩∧(els h ts).map (elO (Ao c n true (Dg ts)))=ts.map Tv.enc:=by
 obtain⟨t,e⟩:∃t:Tv,t=⟨c,n,true,Dg ts⟩:=⟨_,rfl⟩
 have hOk:t.ok:=by subst e;exact⟨hc,hn,by show(Dg ts).length≤_;omega⟩
 have he:Ao c n true (Dg ts)=t.enc:=by subst e;rfl
 have hv:t.v=Dg ts:=by subst e;rfl
 have hi:(t.el 0).isB c n true=true:=by subst e;simp[El.isB,Tv.el]
 have hlen:=t.len
 have hpre:(t.enc.take t.hd).length=t.hd:=by rw[Al];omega
 have hcat:t.enc.take t.enc.length=t.enc.take t.hd++Dg ts:=by
  rw[List.take_length,←hv,←t.body,List.take_append_drop]
 refine⟨t.hd,?_,?_⟩
 ·rw[he]
  unfold A6
  rw[He hOk,if_neg (by simp)]
  simp only[hi]
  rw[if_neg (by simp)]
  show Ct t.enc (0+t.hd) (0+t.enc.length)=_
  have:=Lb ts t.enc (t.enc.take t.hd) t.enc.length ht hcat (Nat.le_refl _)
  rw[hpre] at this
  rw[Nat.zero_add,Nat.zero_add,this]
 ·rw[he]
  have:=P5 ts t.enc (t.enc.take t.hd) t.enc.length hcat (Nat.le_refl _)
  rwa[hpre] at this
theorem BR (b:List UInt8) (a:Nat) (t:Tv):bod b (t.el a)=(elO b (t.el a)).drop t.hd:=by
 unfold bod elO Tv.el
 simp only
 rw[List.drop_take,List.drop_drop]
 congr 1
 omega
theorem sC (x y:Tv) (hx:x.ok) (hy:y.ok) (hl:(Dg [x,y]).length≤2147483600):rX (Ao 0 16 true (Dg [x,y]))=if(x.el 0).isB 0 6 false=true∧odC x.v=0 then some (odT x.v,y.enc) else none:=by
 obtain⟨h,e1,e2⟩:=Lc (c:=0) (n:=16) [x,y] (by omega) (by omega) (fun t ht=>by
  rcases List.mem_cons.1 ht with rfl|ht
  ·exact hx
  ·rw[List.mem_singleton.1 ht];exact hy) hl
 unfold rX
 rw[e1]
 simp only[els,List.map_cons,List.map_nil,List.cons.injEq,and_true] at e2
 show(if(x.el h).isB 0 6 false=true∧odC (bod _ (x.el h))=0 then some (odT (bod _ (x.el h)),elO _ (y.el (h+x.enc.length))) else none)=_
 rw[BR,e2.1,x.body,e2.2]
 rfl
theorem P6:∀{l:List (List UInt8)},(∀p∈l,∃t:Tv,t.ok∧p=t.enc)→∃ts:List Tv,(∀t∈ts,t.ok)∧l=ts.map Tv.enc
 |[],_=>⟨[],by simp,rfl⟩
 |p::r,h=>by
  obtain⟨t,h1,h2⟩:=h p (by simp)
  obtain⟨ts,h3,h4⟩:=P6 (l:=r) fun q hq=>h q (by simp[hq])
  exact⟨t::ts,fun u hu=>by
   rcases List.mem_cons.1 hu with rfl|hu
   ·exact h1
   ·exact h3 u hu,by rw[List.map_cons,h2,h4]⟩
theorem Np (ts:List Tv):Dg ts=(ts.map Tv.enc).flatten:=List.flatMap_def ..
theorem gP (a:Nat) (ts:List Tv):(els a ts).length=ts.length:=by
 induction ts generalizing a with
 |nil=>rfl
 |cons t r ih=>rw[els,Ag,ih,Ag]
theorem Tr.parts (t:Tr):t.v.length+(Tr.encs t.ks).length≤t.enc.length:=by
 cases t with
 |mk c n k b ks=>
  rw[Tr.enc,Nn,Aj]
  show b.length+(Tr.encs ks).length≤_
  omega
end Go.Proofs.YtaoahmplnckhpaaGreatDoor
