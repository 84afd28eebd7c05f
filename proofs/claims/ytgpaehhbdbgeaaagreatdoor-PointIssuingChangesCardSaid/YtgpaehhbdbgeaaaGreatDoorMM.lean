/- MM: the texts Link MulR MulP MulQ MulS MulC MulT MulL MulI MulJ MulK MulW MulX, one behind the other. No condition but what each lemma says. -/
import Derived.Test.YtgpaehhbdbgeaaaGreatDoorMI
import Derived.Test.YtgpaehhbdbgeaaaGreatDoorMJ
import Derived.Test.YtgpaehhbdbgeaaaGreatDoorMH
set_option maxRecDepth 100000
set_option maxHeartbeats 16000000
namespace Go.Proofs.YtgpaehhbdbgeaaaGreatDoor
open Go.RowKit
theorem cD (x:S) (r:SR):(Q9 x r).code=r.code:=by
 by_cases h:r.code=0
 ·rw[Mj h,h]
 ·rw[Kc h]
theorem cE (sz:Nat) (x:Tr) (r:TR):(Tl sz x r).code=r.code:=by
 by_cases h:r.code=0
 ·rw[Rb h,h]
 ·rw[Ke h];rfl
def Agr (rd:Nat→SR) (rt:List UInt8→TR) (b:List UInt8) (en:Nat):Prop:=∀p,p≤en→(rd p).code=(rt ((b.drop p).take (en-p))).code∧∀s t sz,rd p=⟨[s],0,0⟩→rt ((b.drop p).take (en-p))=⟨[t],sz,0,0⟩→s.stop=p+sz
theorem kI {rd:Nat→SR} {rt:List UInt8→TR} {b:List UInt8} {en:Nat} (hen:en≤b.length) (hs:Rds rd en) (ht:RdT rt) (ha:Agr rd rt b en):∀(f p:Nat),p≤en→(E6 rd en f p).code=(kT rt f ((b.drop p).take (en-p))).code:=by
 intro f
 induction f with
 |zero=>intro p _;rfl
 |succ f ih=>
  intro p hp
  have hl:((b.drop p).take (en-p)).length=en-p:=by rw[List.length_take,List.length_drop];omega
  by_cases h3:p<en
  ·have h0:((b.drop p).take (en-p)).length≠0:=by omega
   obtain⟨a1,a2⟩:=ha p hp
   by_cases h4:(rd p).code=0
   ·obtain⟨s,e1,e2,e3⟩:=(hs p hp).1 h4
    obtain⟨t,sz,q1,q2,q3⟩:=(ht _).1 (a1▸h4)
    have hst:=a2 s t sz e1 q1
    rw[H1 h3 e1,Vc h0 q1,cD,cE,hst,ih (p+sz) (by omega),List.drop_take,List.drop_drop,show en-p-sz=en-(p+sz) by omega]
   ·rw[Jn h3 h4,eX h0 (a1▸h4)];exact a1
  ·rw[Fi h3,Nn (by omega)]
theorem kJ (b:List UInt8):∀(d en:Nat),en≤b.length→Agr (fun p=>Az b d p en) (rT d) b en:=by
 intro d
 induction d with
 |zero=>intro en _ p _;exact⟨rfl,fun s t sz h=>by simp[Az,SR.bad] at h⟩
 |succ d ih=>
  intro en hen p hp
  have hl:((b.drop p).take (en-p)).length=en-p:=by rw[List.length_take,List.length_drop];omega
  have hB:=Dl ((b.drop p).take (en-p))
  rw[hl] at hB
  simp only[Az,rT]
  generalize hh:rhS ((b.drop p).take (en-p))=h at hB⊢
  obtain⟨c1,c2,c3,c4,c5,c6,c7⟩:=hB
  unfold H2 rTH
  by_cases k1:h.code≠0
  ·rw[if_pos k1,if_pos k1]
   exact⟨rfl,fun s t sz h'=>by simp[SR.bad] at h'⟩
  rw[if_neg k1,if_neg k1,hl]
  by_cases k2:en-p<h.size+h.len
  ·rw[if_pos k2,if_pos k2]
   exact⟨rfl,fun s t sz h'=>by simp[SR.bad] at h'⟩
  rw[if_neg k2,if_neg k2]
  by_cases k3:h.k=false
  ·rw[if_pos k3,if_pos k3]
   refine⟨rfl,fun s t sz h1 h2=> ?_⟩
   simp only[SR.mk.injEq,TR.mk.injEq,List.cons.injEq,and_true] at h1 h2
   rw[←h1,←h2.2];simp only[S.stop];omega
  rw[if_neg k3,if_neg k3]
  have e1:(((b.drop p).take (en-p)).drop h.size).take h.len=(b.drop (p+h.size)).take (p+h.size+h.len-(p+h.size)):=by
   rw[List.drop_take,List.drop_drop,List.take_take]
   congr 1;omega
  have hK:(Ci (Az b d) (p+h.size) (p+h.size+h.len)).code=(Cb (rT d) ((((b.drop p).take (en-p)).drop h.size).take h.len)).code:=by
   rw[e1,Cb,show((b.drop (p+h.size)).take (p+h.size+h.len-(p+h.size))).length=p+h.size+h.len-(p+h.size) by rw[List.length_take,List.length_drop];omega]
   exact kI (by omega) (Ek b d _ (by omega)) (Tm d) (ih (p+h.size+h.len) (by omega)) _ (p+h.size) (by omega)
  by_cases k4:(Ci (Az b d) (p+h.size) (p+h.size+h.len)).code≠0
  ·rw[if_pos k4,if_pos (hK▸k4)]
   exact⟨hK,fun s t sz h'=>by simp[SR.bad] at h'⟩
  ·rw[if_neg k4,if_neg (hK▸k4)]
   refine⟨rfl,fun s t sz h1 h2=> ?_⟩
   simp only[SR.mk.injEq,TR.mk.injEq,List.cons.injEq,and_true] at h1 h2
   rw[←h1,←h2.2];simp only[S.stop];omega
theorem cF (b:List UInt8):(C4 b).code=(Fp 16 b).code:=by
 have hA:=kJ b 16 b.length (Nat.le_refl _) 0 (Nat.zero_le _)
 rw[List.drop_zero,Nat.sub_zero,List.take_length] at hA
 obtain⟨a1,a2⟩:=hA
 have hF:=Ek b 16 b.length (by omega) 0 (by omega)
 dsimp only at hF a1 a2
 have hT:=Tm 16 b
 unfold C4 Fp
 by_cases h:(Az b 16 0 b.length).code=0
 ·obtain⟨s,e1,e2,e3⟩:=hF.1 h
  obtain⟨t,sz,q1,q2,q3⟩:=hT.1 (a1▸h)
  have hst:=a2 s t sz e1 q1
  rw[e1,q1]
  by_cases h3:s.stop<b.length
  ·rw[Fu h3,Ok (by omega)];rfl
  ·rw[H3 h3,Tn (by omega)]
 ·have h':=hT.2 (a1▸h)
  have h1:Az b 16 0 b.length=⟨[],(Az b 16 0 b.length).code,(Az b 16 0 b.length).off⟩:=by
   have:=(hF.2 h).2
   generalize Az b 16 0 b.length=r at this⊢
   obtain⟨l,c,o⟩:=r
   simp only at this;rw[this]
  have h2:rT 16 b=⟨[],0,(rT 16 b).code,(rT 16 b).off⟩:=by
   have h5:=h'.2.1;have h6:=h'.2.2.1
   generalize rT 16 b=r at h5 h6⊢
   obtain⟨l,z,c,o⟩:=r
   simp only at h5 h6;rw[h5,h6]
  rw[h1,h2,Gr,Rc]
  simp only[SR.bad,TR.bad]
  rw[a1]
theorem uI (b:List UInt8):Fx b=pJ b:=by unfold Fx pJ;rw[cF]
theorem C5 {b:List UInt8} {c n:Nat} {x:El} (h:x∈(An b c n).l):x.at'+2≤x.body∧x.body≤x.stop∧x.stop≤b.length:=by
 have hF:=Cm b
 unfold An at h
 split at h
 ·cases h
 ·split at h
  ·cases h
  ·have:=Xv hF.2.2.2.2.2.1 h
   omega
theorem Is (b:List UInt8) (c n:Nat):(An b c n).l.length≤b.length:=by
 have hF:=Cm b
 unfold An
 split
 ·exact Nat.zero_le _
 ·split
  ·exact Nat.zero_le _
  ·have:=Tb (b:=b) hF.2.2.2.2.2.1 ((Ap b).x.stop-(Ap b).x.body) (Ap b).x.body
   exact Nat.le_trans this (by omega)
theorem Re {α β:Type} (f:α→β) {l:List α} {i:Nat} {x:α} (h:l[i]?=some x):(l.take (i+1)).map f=(l.take i).map f++[f x]:=by
 obtain⟨hlt,he⟩:=List.getElem?_eq_some_iff.1 h
 rw[List.take_succ_eq_append_getElem hlt,he,List.map_append];rfl
theorem kK {b:List UInt8} {en:Nat} (hen:en≤b.length):∀(f p:Nat),p≤en→(Cy b en f p).off≤b.length:=by
 intro f
 induction f with
 |zero=>intro p _;exact Nat.zero_le _
 |succ f ih=>
  intro p hp
  rw[Cy]
  have hF:=Ef b p en hp hen
  split
  ·split
   ·show(nxS b p en).off≤_
    have:=hF.2.2.1
    omega
   ·rename_i h1
    have:=hF.1 (by omega)
    split
    ·exact ih _ (by omega)
    ·exact Nat.zero_le _
  ·exact Nat.zero_le _
theorem Gs (b:List UInt8) (c n:Nat):(An b c n).off≤b.length:=by
 have hF:=Cm b
 unfold An
 split
 ·exact hF.2.2.1
 ·split
  ·exact Nat.zero_le _
  ·exact kK hF.2.2.2.2.2.1 _ _ hF.2.2.2.2.2.2
def bod (b:List UInt8) (x:El):List UInt8:=(b.drop x.body).take (x.stop-x.body)
def Yi (b:List UInt8):LR→Option (List UInt8×List UInt8)
 |⟨[x,y],0,_⟩=>if x.isB 0 6 false=true∧odC (bod b x)=0 then some (odT (bod b x),elO b y) else none
 |_=>none
def Yj (b:List UInt8):Option (List UInt8×List UInt8):=Yi b (An b 0 16)
theorem Ve {b:List UInt8} {r:LR} (h:r.code≠0∨r.l.length≠2):Yi b r=none:=by
 obtain⟨l,c,o⟩:=r
 match l,c with
 |[x,y],0=>rcases h with h|h<;>simp at h
 |[x,y],c+1=>rfl
 |[],0=>rfl
 |[],c+1=>rfl
 |[x],0=>rfl
 |[x],c+1=>rfl
 |x::y::z::r,0=>rfl
 |x::y::z::r,c+1=>rfl
theorem Nr {α:Type} {l:List α} {i:Nat} {x:α} (h:l[i]?=some x):l.drop i=x::l.drop (i+1):=by
 obtain⟨hlt,he⟩:=List.getElem?_eq_some_iff.1 h
 rw[List.drop_eq_getElem_cons hlt,he]
theorem Vf {α:Type} {a b:List α} {i:Nat} {x:α} (h:a.take i=b.take i) (h1:a[i]?=some x) (h2:b[i]?=some x):a.take (i+1)=b.take (i+1):=by
 obtain⟨l1,e1⟩:=List.getElem?_eq_some_iff.1 h1
 obtain⟨l2,e2⟩:=List.getElem?_eq_some_iff.1 h2
 rw[List.take_succ_eq_append_getElem l1,List.take_succ_eq_append_getElem l2,h,e1,e2]
theorem pN {α:Type} {a b:List α} {i:Nat} {x y:α} (h1:a[i]?=some x) (h2:b[i]?=some y) (h:x≠y):a≠b:=fun e=>by
 subst e;rw[h1] at h2;exact h (Option.some.inj h2)
theorem cG {α:Type} {a b:List α} {i:Nat} (h:a.take i=b.take i) (hi:¬(i<a.length∧i<b.length)) (_:i≤a.length) (_:i≤b.length) (he:a.length=b.length):a=b:=by
 have h1:a.take i=a:=List.take_of_length_le (by omega)
 have h2:b.take i=b:=List.take_of_length_le (by omega)
 rw[←h1,←h2,h]
structure Mu.md (m:Mu):Prop where
 o:m.oid.length≤1000000000
 n:m.vs.length≤1000000
 v:∀p∈m.vs,p.length≤1000000000
deriving instance DecidableEq for Mu
def RdE (rd:List UInt8→TR):Prop:=∀l t sz,rd l=⟨[t],sz,0,0⟩→t.ok∧t.enc=l.take sz
theorem pO {rd:List UInt8→TR} (hr:RdT rd) (he:RdE rd):∀(f:Nat) (l:List UInt8),l.length≤f→(Cb rd l).code=0→Tr.oks (Cb rd l).l∧Tr.encs (Cb rd l).l=l:=by
 intro f
 induction f with
 |zero=>
  intro l h _
  have:l=[]:=List.eq_nil_of_length_eq_zero (by omega)
  subst this
  rw[Em rfl,Tr.oks,Tr.encs]
  exact⟨trivial,rfl⟩
 |succ f ih=>
  intro l h h0
  by_cases h3:l.length=0
  ·have:l=[]:=List.eq_nil_of_length_eq_zero h3
   subst this
   rw[Em rfl,Tr.oks,Tr.encs]
   exact⟨trivial,rfl⟩
  ·by_cases h4:(rd l).code=0
   ·obtain⟨t,sz,e1,e2,e3⟩:=(hr l).1 h4
    obtain⟨k1,k2⟩:=he l t sz e1
    have hs:=Ir hr h3 e1
    rw[hs] at h0⊢
    have h5:(Cb rd (l.drop sz)).code=0:=by
     by_cases h6:(Cb rd (l.drop sz)).code=0
     ·exact h6
     ·rw[Ke h6] at h0;exact absurd h0 h6
    obtain⟨q1,q2⟩:=ih (l.drop sz) (by rw[List.length_drop];omega) h5
    rw[Rb h5,Tr.oks,Tr.encs,q2,k2,List.take_append_drop]
    exact⟨⟨k1,q1⟩,rfl⟩
   ·rw[No h3 h4] at h0;exact absurd h0 h4
theorem yO:∀d,RdE (rT d):=by
 intro d
 induction d with
 |zero=>intro l t sz h;simp[rT,TR.bad] at h
 |succ d ih=>
  intro l t sz h
  have hB:=Dl l
  have hI:=eZ (l:=l)
  simp only[rT] at h
  generalize hh:rhS l=q at hB hI h
  obtain⟨c1,c2,c3,c4,c5,c6,c7⟩:=hB
  unfold rTH at h
  by_cases k1:q.code≠0
  ·rw[if_pos k1] at h;simp[TR.bad] at h
  rw[if_neg k1] at h
  by_cases k2:l.length<q.size+q.len
  ·rw[if_pos k2] at h;simp[TR.bad] at h
  rw[if_neg k2] at h
  have hI':=hI (Decidable.not_not.1 k1) (by omega)
  by_cases k3:q.k=false
  ·rw[if_pos k3] at h
   simp only[TR.mk.injEq,List.cons.injEq,and_true] at h
   obtain⟨rfl,rfl⟩:=h
   rw[hI',k3,Tr.ok,Tr.enc,Tr.encs,Tr.oks,List.append_nil]
   exact⟨⟨by omega,by omega,trivial⟩,rfl⟩
  rw[if_neg k3] at h
  by_cases k4:(Cb (rT d) ((l.drop q.size).take q.len)).code≠0
  ·rw[if_pos k4] at h;simp[TR.bad] at h
  rw[if_neg k4] at h
  simp only[TR.mk.injEq,List.cons.injEq,and_true] at h
  obtain⟨rfl,rfl⟩:=h
  obtain⟨q1,q2⟩:=pO (Tm d) ih _ _ (Nat.le_refl _) (Decidable.not_not.1 k4)
  have kt:q.k=true:=by cases hk:q.k with|true=>rfl|false=>exact absurd hk k3
  rw[hI',kt,Tr.ok,Tr.enc,q2,List.nil_append]
  exact⟨⟨by omega,by omega,q1⟩,rfl⟩
def yP (rd rd':List UInt8→TR):Prop:=∀l,(rd l).code=0→rd' l=rd l
theorem kL {rd rd':List UInt8→TR} (hr:RdT rd) (hr':RdT rd') (hm:yP rd rd'):∀(f:Nat) (l:List UInt8),l.length≤f→(Cb rd l).code=0→Cb rd' l=Cb rd l:=by
 intro f
 induction f with
 |zero=>intro l h _;rw[Em (by omega),Em (by omega)]
 |succ f ih=>
  intro l h h0
  by_cases h3:l.length=0
  ·rw[Em h3,Em h3]
  ·by_cases h4:(rd l).code=0
   ·obtain⟨t,sz,e1,e2,e3⟩:=(hr l).1 h4
    have hs:=Ir hr h3 e1
    have hs':=Ir hr' h3 ((hm l h4).trans e1)
    rw[hs] at h0
    have h5:(Cb rd (l.drop sz)).code=0:=by
     by_cases h6:(Cb rd (l.drop sz)).code=0
     ·exact h6
     ·rw[Ke h6] at h0;exact absurd h0 h6
    rw[hs,hs',ih (l.drop sz) (by rw[List.length_drop];omega) h5]
   ·rw[No h3 h4] at h0;exact absurd h0 h4
theorem uJ:∀d,yP (rT d) (rT (d+1)):=by
 intro d
 induction d with
 |zero=>intro l h;simp[rT,TR.bad] at h
 |succ d ih=>
  intro l h
  rw[rT] at h⊢
  rw[rT]
  generalize rhS l=q at h⊢
  unfold rTH at h⊢
  by_cases k1:q.code≠0
  ·rw[if_pos k1] at h;exact absurd h k1
  rw[if_neg k1] at h⊢
  rw[if_neg k1]
  by_cases k2:l.length<q.size+q.len
  ·rw[if_pos k2] at h;cases h
  rw[if_neg k2] at h⊢
  rw[if_neg k2]
  by_cases k3:q.k=false
  ·rw[if_pos k3,if_pos k3]
  rw[if_neg k3] at h⊢
  rw[if_neg k3]
  by_cases k4:(Cb (rT d) ((l.drop q.size).take q.len)).code≠0
  ·rw[if_pos k4] at h;exact absurd h k4
  have hk:=kL (Tm d) (Tm (d+1)) ih _ _ (Nat.le_refl _) (Decidable.not_not.1 k4)
  rw[hk]
theorem uK {d e:Nat} (h:d≤e):yP (rT d) (rT e):=by
 obtain⟨k,rfl⟩:=Nat.exists_eq_add_of_le h
 induction k with
 |zero=>intro l _;rfl
 |succ k ih=>
  intro l h0
  have h1:=ih (by omega) l h0
  exact(uJ (d+k) l (by rw[h1];exact h0)).trans h1
def trD (d:Nat) (p:List UInt8):Tr:=(rT d p).l.headD .zero
def One (d:Nat) (p:List UInt8):Prop:=rT d p=⟨[trD d p],p.length,0,0⟩
theorem pP {d:Nat} {p:List UInt8} {t:Tr} (h:rT d p=⟨[t],p.length,0,0⟩):One d p∧trD d p=t:=by
 have:trD d p=t:=by unfold trD;rw[h];rfl
 exact⟨by unfold One;rw[this];exact h,this⟩
theorem One.enc {d:Nat} {p:List UInt8} (h:One d p):(trD d p).ok∧(trD d p).enc=p:=by
 have:=yO d p _ _ h
 rw[List.take_length] at this;exact this
theorem One.mono {d e:Nat} {p:List UInt8} (h:One d p) (hd:d≤e):One e p∧trD e p=trD d p:=by
 have h0:(rT d p).code=0:=by rw[h]
 exact pP ((uK hd p h0).trans h)
theorem pQ {p:List UInt8} (h:Fx p=true):One 16 p:=by
 rw[uI] at h
 unfold pJ at h
 obtain⟨t,-,h2⟩:=(Sl 16 p).1 (by simpa using h)
 exact(pP h2).1
theorem One.tv {d:Nat} {p:List UInt8} (h:One d p) (hl:p.length≤2147483647):∃t:Tv,t.ok∧p=t.enc:=by
 obtain⟨h1,h2⟩:=h.enc
 generalize trD d p=t at h1 h2
 obtain⟨c,n,k,b,ks⟩:=t
 rw[Tr.ok] at h1
 rw[Tr.enc] at h2
 refine⟨⟨c,n,k,b++Tr.encs ks⟩,⟨h1.1,h1.2.1,?_⟩,h2.symm⟩
 have:=congrArg List.length h2
 rw[Fv] at this
 show(b++Tr.encs ks).length≤_
 omega
theorem One.more {d:Nat} {p:List UInt8} (h:One d p) (hl:p.length≤2147483647) (r:List UInt8):rT d (p++r)=⟨[trD d p],p.length,0,0⟩:=by
 obtain⟨t,ht,he⟩:=h.tv hl
 have hr:rhS (p++r)=rhS p:=by
  rw[he,Tv.rh ht]
  have:=Tv.rh ht []
  rw[List.append_nil] at this
  exact this.symm
 have hp:rhS p=⟨t.c,t.n,t.k,t.v.length,t.hd,0,0⟩:=by
  have:=Tv.rh ht []
  rw[List.append_nil,←he] at this;exact this
 have hlen:p.length=t.hd+t.v.length:=by rw[he];exact t.len
 cases d with
 |zero=>unfold One at h;simp[rT,TR.bad] at h
 |succ d=>
  unfold One at h
  rw[←h,rT,rT,hr,hp]
  unfold rTH
  simp only
  have e1:((p++r).drop t.hd).take t.v.length=(p.drop t.hd).take t.v.length:=by
   rw[List.drop_append_of_le_length (by omega),List.take_append_of_le_length (by rw[List.length_drop];omega)]
  rw[if_neg (by simp),if_neg (show¬(p++r).length<t.hd+t.v.length by rw[List.length_append];omega),if_neg (show¬p.length<t.hd+t.v.length by omega),e1]
  exact(if_neg (fun h=>h rfl)).symm
theorem Pa:∀(ts:List Tv) (b pre:List UInt8) (en:Nat),b.take en=pre++Bu ts→en≤b.length→(els pre.length ts).map (elO b)=ts.map Tv.enc
 |[],_,_,_,_,_=>rfl
 |t::r,b,pre,en,h,hen=>by
  have h':b.take en=(pre++t.enc)++Bu r:=by rw[h,Br,List.append_assoc]
  have ih:=Pa r b (pre++t.enc) en h' hen
  rw[List.length_append] at ih
  rw[els,List.map_cons,ih,List.map_cons]
  congr 1
  unfold elO Tv.el
  simp only
  have hl:=congrArg List.length h
  rw[List.length_take,Br,List.length_append,List.length_append] at hl
  have e1:(b.drop pre.length).take (pre.length+t.enc.length-pre.length)=((b.take en).drop pre.length).take t.enc.length:=by
   rw[List.drop_take,List.take_take];congr 1;omega
  rw[e1,h,List.drop_left,Br,List.take_left]
theorem En {c n:Nat} (ts:List Tv) (hc:c≤3) (hn:n≤30) (ht:∀t∈ts,t.ok) (hl:(Bu ts).length≤2147483600):∃h:Nat,An (Ae c n true (Bu ts)) c n=⟨els h ts,0,0⟩∧(els h ts).map (elO (Ae c n true (Bu ts)))=ts.map Tv.enc:=by
 obtain⟨t,e⟩:∃t:Tv,t=⟨c,n,true,Bu ts⟩:=⟨_,rfl⟩
 have hOk:t.ok:=by subst e;exact⟨hc,hn,by show(Bu ts).length≤_;omega⟩
 have he:Ae c n true (Bu ts)=t.enc:=by subst e;rfl
 have hv:t.v=Bu ts:=by subst e;rfl
 have hi:(t.el 0).isB c n true=true:=by subst e;simp[El.isB,Tv.el]
 have hlen:=t.len
 have hpre:(t.enc.take t.hd).length=t.hd:=by rw[List.length_take];omega
 have hcat:t.enc.take t.enc.length=t.enc.take t.hd++Bu ts:=by
  rw[List.take_length,←hv,←t.body,List.take_append_drop]
 refine⟨t.hd,?_,?_⟩
 ·rw[he]
  unfold An
  rw[Fw hOk,if_neg (by simp)]
  simp only[hi]
  rw[if_neg (by simp)]
  show Bf t.enc (0+t.hd) (0+t.enc.length)=_
  have:=Kf ts t.enc (t.enc.take t.hd) t.enc.length ht hcat (Nat.le_refl _)
  rw[hpre] at this
  rw[Nat.zero_add,Nat.zero_add,this]
 ·rw[he]
  have:=Pa ts t.enc (t.enc.take t.hd) t.enc.length hcat (Nat.le_refl _)
  rwa[hpre] at this
theorem H5 {b:List UInt8} {c n:Nat} (h:(An b c n).code=0):∃ts:List Tv,(∀t∈ts,t.ok)∧b=Ae c n true (Bu ts)∧c≤3∧n≤30∧(Bu ts).length≤2147483647:=by
 unfold An at h
 by_cases h1:(Ap b).code≠0
 ·rw[if_pos h1] at h;exact absurd h h1
 rw[if_neg h1] at h
 by_cases h2:(Ap b).x.isB c n true=false
 ·rw[if_pos h2] at h;cases h
 rw[if_neg h2] at h
 obtain⟨t,t1,t2,t3⟩:=Mm (Decidable.not_not.1 h1)
 rw[t2] at h h2
 have hb:(t.el 0).isB c n true=true:=by simpa using h2
 unfold El.isB Tv.el at hb
 simp only[Bool.and_eq_true,beq_iff_eq] at hb
 obtain⟨⟨b1,b2⟩,b3⟩:=hb
 have hlen:=t.len
 have h':(Bf b (0+t.hd) (0+t.enc.length)).code=0:=h
 rw[Nat.zero_add,Nat.zero_add] at h'
 obtain⟨ts,q1,-,q3⟩:=Np _ b t.hd t.enc.length (Nat.le_refl _) (by omega) (by rw[t3];omega) h'
 have hv:(b.drop t.hd).take (t.enc.length-t.hd)=t.v:=by
  rw[t3,t.body];exact List.take_of_length_le (by omega)
 rw[hv] at q3
 have a1:=t1.c
 have a2:=t1.n
 have a3:=t1.v
 refine⟨ts,q1,?_,by omega,by omega,by rw[←q3];exact a3⟩
 rw[t3,Tv.enc,q3]
 rw[b1,b2,b3]
theorem yQ (b:List UInt8) (a:Nat) (t:Tv):bod b (t.el a)=(elO b (t.el a)).drop t.hd:=by
 unfold bod elO Tv.el
 simp only
 rw[List.drop_take,List.drop_drop]
 congr 1
 omega
theorem Yk (x y:Tv) (hx:x.ok) (hy:y.ok) (hl:(Bu [x,y]).length≤2147483600):Yj (Ae 0 16 true (Bu [x,y]))=if(x.el 0).isB 0 6 false=true∧odC x.v=0 then some (odT x.v,y.enc) else none:=by
 obtain⟨h,e1,e2⟩:=En (c:=0) (n:=16) [x,y] (by omega) (by omega) (fun t ht=>by
  rcases List.mem_cons.1 ht with rfl|ht
  ·exact hx
  ·rw[List.mem_singleton.1 ht];exact hy) hl
 unfold Yj
 rw[e1]
 simp only[els,List.map_cons,List.map_nil,List.cons.injEq,and_true] at e2
 show(if(x.el h).isB 0 6 false=true∧odC (bod _ (x.el h))=0 then some (odT (bod _ (x.el h)),elO _ (y.el (h+x.enc.length))) else none)=_
 rw[yQ,e2.1,x.body,e2.2]
 rfl
theorem Pb:∀{l:List (List UInt8)},(∀p∈l,∃t:Tv,t.ok∧p=t.enc)→∃ts:List Tv,(∀t∈ts,t.ok)∧l=ts.map Tv.enc
 |[],_=>⟨[],by simp,rfl⟩
 |p::r,h=>by
  obtain⟨t,h1,h2⟩:=h p (by simp)
  obtain⟨ts,h3,h4⟩:=Pb (l:=r) fun q hq=>h q (by simp[hq])
  exact⟨t::ts,fun u hu=>by
   rcases List.mem_cons.1 hu with rfl|hu
   ·exact h1
   ·exact h3 u hu,by rw[List.map_cons,h2,h4]⟩
theorem Dn (ts:List Tv):Bu ts=(ts.map Tv.enc).flatten:=List.flatMap_def ..
theorem cH {b:List UInt8} {r:LR} {w:List UInt8×List UInt8} (h:Yi b r=some w):r.code=0∧r.l.length=2:=by
 refine⟨?_,?_⟩
 ·refine Decidable.byContradiction fun hc=> ?_
  rw[Ve (.inl hc)] at h;cases h
 ·refine Decidable.byContradiction fun hc=> ?_
  rw[Ve (.inr hc)] at h;cases h
theorem Vg (a:Nat) (ts:List Tv):(els a ts).length=ts.length:=by
 induction ts generalizing a with
 |nil=>rfl
 |cons t r ih=>rw[els,List.length_cons,ih,List.length_cons]
theorem Tr.parts (t:Tr):t.v.length+(Tr.encs t.ks).length≤t.enc.length:=by
 cases t with
 |mk c n k b ks=>
  rw[Tr.enc,Fv,List.length_append]
  show b.length+(Tr.encs ks).length≤_
  omega
end Go.Proofs.YtgpaehhbdbgeaaaGreatDoor
