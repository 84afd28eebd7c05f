/- MX: the texts KyP KyRp KyW KyX, one behind the other. No condition but what each lemma says. -/
import Derived.Test.YtgamacmidohpfaaGreatDoorMW
set_option maxRecDepth 100000
set_option maxHeartbeats 16000000
namespace Go.Proofs.YtgamacmidohpfaaGreatDoor
open Go.RowKit
def Cg (l:List Gn):List UInt8:=(l.map gnE).flatten
def kdW (k:Kd):Bool:=kdV k (Kc k.iss)
def kdE (k:Kd):List UInt8:=Ai 0 16 true (kdP k (Cg k.iss)).flatten
theorem Hx {k:Kd}:kdW k=true↔(k.has=false→k.id=[])∧(k.iss=[]∧k.ser=[]∨k.iss≠[]∧k.iss.all gnW=true∧M7 k.ser=true):=by
 obtain⟨has,id,iss,ser⟩:=k
 unfold kdW kdV
 simp only
 have hi:Kc iss=true↔iss≠[]∧iss.all gnW=true:=vL
 have h0:M7 []=false:=rfl
 by_cases h1:has=false∧id≠[]
 ·rw[if_pos h1]
  exact⟨fun h=>(by cases h),fun⟨h,_⟩=>absurd (h h1.1) h1.2⟩
 rw[if_neg h1]
 have h1':has=false→id=[]:=fun h=>by
  by_cases hh:id=[]
  ·exact hh
  ·exact absurd ⟨h,hh⟩ h1
 by_cases i0:iss=[]<;>by_cases s0:ser=[]
 ·subst i0 s0
  simp
  exact h1'
 ·rw[if_pos (by simp[i0,s0])]
  exact⟨fun h=>(by cases h),fun⟨_,h⟩=>by
   rcases h with h|h
   ·exact absurd h.2 s0
   ·exact absurd i0 h.1⟩
 ·rw[if_pos (by simp[i0,s0])]
  exact⟨fun h=>(by cases h),fun⟨_,h⟩=>by
   rcases h with h|h
   ·exact absurd h.1 i0
   ·subst s0;rw[h0] at h;exact absurd h.2.2 (by simp)⟩
 ·rw[if_neg (by simp[i0,s0])]
  constructor
  ·intro h
   have h:(Kc iss&&M7 ser)=true:=by simpa[i0] using h
   rw[Aw,hi] at h
   exact⟨h1',.inr ⟨h.1.1,h.1.2,h.2⟩⟩
  ·rintro⟨_,h|h⟩
   ·exact absurd h.1 i0
   ·have:(Kc iss&&M7 ser)=true:=by rw[Aw,hi];exact⟨⟨h.1,h.2.1⟩,h.2.2⟩
    simpa[i0] using this
theorem Sb {k:Kd} (h:kdW k=true):k.ser=[]↔k.iss=[]:=by
 obtain⟨-,h|h⟩:=Hx.1 h
 ·exact⟨fun _=>h.1,fun _=>h.2⟩
 ·constructor
  ·intro e
   have:=h.2.2
   rw[e] at this;cases this
  ·intro e;exact absurd e h.1
def pT {α:Type} (n:Nat) (R:α→Prop) (q:Option α×Nat×Nat):Prop:=(∃v,R v∧q=(some v,0,0))∨(∃c o:Nat,c≠0∧o≤n∧q=(none,c,o))
theorem vM {c n:Nat} {k:Bool} {l m:List UInt8} (hc:c≤3) (hn:n≤30) (hl:l.length≤2147483647) (hm:m.length≤2147483647) (e:Ai c n k l=Ai c n k m):l=m:=by
 have:=Tv.inj (t:=⟨c,n,k,l⟩) (u:=⟨c,n,k,m⟩) ⟨hc,hn,hl⟩ ⟨hc,hn,hm⟩ (r:=[]) (s:=[]) (by rw[List.append_nil,List.append_nil];exact e)
 exact congrArg Tv.v this.1
def ky3 (k:Kd):List El→Option Kd×Nat×Nat
 |x::_=>(none,3,x.at')
 |[]=>if kdW k=true then(some k,0,0) else(none,6,0)
def ky2 (b:List UInt8) (has:Bool) (id:List UInt8) (iss:List Gn):List El→Option Kd×Nat×Nat
 |x::r=>if x.isB 2 2 false=true then(if bod b x=[] then(none,6,x.body) else ky3 ⟨has,id,iss,bod b x⟩ r) else ky3 ⟨has,id,iss,[]⟩ (x::r)
 |[]=>ky3 ⟨has,id,iss,[]⟩ []
def GQ (b:List UInt8) (has:Bool) (id:List UInt8) (x:El) (r:List El):Option (List Gn)×Nat×Nat→Option Kd×Nat×Nat
 |(some gs,_)=>ky2 b has id gs r
 |(none,_)=>(none,6,x.body)
def ky1 (b:List UInt8) (has:Bool) (id:List UInt8):List El→Option Kd×Nat×Nat
 |x::r=>if x.isB 2 1 true=true then GQ b has id x r (Y2 (Ai 0 16 true (bod b x))) else ky2 b has id [] (x::r)
 |[]=>ky2 b has id [] []
def ky0 (b:List UInt8):List El→Option Kd×Nat×Nat
 |x::r=>if x.isB 2 0 false=true then ky1 b true (bod b x) r else ky1 b false [] (x::r)
 |[]=>ky1 b false [] []
def kyO (b:List UInt8):Option Kd×Nat×Nat:=if(Bd b 0 16).code≠0 then(none,(Bd b 0 16).code,(Bd b 0 16).off) else ky0 b (Bd b 0 16).l
theorem Of {t:Tv} {a n:Nat} {k:Bool}:(t.el a).isB 2 n k=true↔t.c=2∧t.n=n∧t.k=k:=by
 unfold El.isB Tv.el
 simp only[Aw,beq_iff_eq]
 exact⟨fun⟨⟨a,b⟩,c⟩=>⟨a,c,b⟩,fun⟨a,b,c⟩=>⟨⟨a,c⟩,b⟩⟩
theorem jU {b:List UInt8} (ts:List Tv) (a:Nat) (h:(els a ts).map (elO b)=ts.map Tv.enc) (hin:∀x∈els a ts,x.stop≤b.length) (k:Kd):pT b.length (fun v=>v=k∧ts=[]∧kdW k=true) (ky3 k (els a ts)):=by
 cases ts with
 |nil=>
  show pT _ _ (if kdW k=true then(some k,0,0) else(none,6,0))
  by_cases hk:kdW k=true
  ·rw[if_pos hk];exact .inl ⟨k,⟨rfl,rfl,hk⟩,rfl⟩
  ·rw[if_neg hk];exact .inr ⟨6,0,by omega,Nat.zero_le _,rfl⟩
 |cons t r=>
  obtain⟨e1,-,e3,e4,-,-⟩:=Kx h hin
  rw[e1]
  exact .inr ⟨3,a,by omega,by have:a+t.hd≤_:=e3;have:_≤b.length:=e4;omega,rfl⟩
theorem jV {b:List UInt8} (ts:List Tv) (a:Nat) (h:(els a ts).map (elO b)=ts.map Tv.enc) (hin:∀x∈els a ts,x.stop≤b.length) (has:Bool) (id:List UInt8) (iss:List Gn):pT b.length (fun v=>v.has=has∧v.id=id∧v.iss=iss∧kdW v=true∧C0 ts=if v.ser=[] then [] else Ai 2 2 false v.ser) (ky2 b has id iss (els a ts)):=by
 have base:pT b.length (fun v=>v.has=has∧v.id=id∧v.iss=iss∧kdW v=true∧C0 ts=if v.ser=[] then [] else Ai 2 2 false v.ser) (ky3 ⟨has,id,iss,[]⟩ (els a ts)):=by
  rcases jU ts a h hin ⟨has,id,iss,[]⟩ with⟨v,⟨rfl,rfl,h3⟩,h4⟩|hb
  ·exact .inl ⟨_,⟨rfl,rfl,rfl,h3,rfl⟩,h4⟩
  ·exact .inr hb
 cases ts with
 |nil=>exact base
 |cons t r=>
  obtain⟨e1,e2,e3,e4,e5,e6⟩:=Kx h hin
  rw[e1] at base⊢
  rw[ky2]
  by_cases hc:(t.el a).isB 2 2 false=true
  ·rw[if_pos hc]
   obtain⟨d1,d2,d3⟩:=Of.1 hc
   by_cases h0:bod b (t.el a)=[]
   ·rw[if_pos h0]
    exact .inr ⟨6,_,by omega,Nat.le_trans e3 e4,rfl⟩
   ·rw[if_neg h0]
    rcases jU r _ e5 e6 ⟨has,id,iss,bod b (t.el a)⟩ with⟨v,⟨rfl,rfl,h3⟩,h4⟩|hb
    ·refine .inl ⟨_,⟨rfl,rfl,rfl,h3,?_⟩,h4⟩
     simp only
     rw[if_neg h0,Ck]
     show t.enc++[]=_
     rw[List.append_nil,e2,Tv.enc,d1,d2,d3]
    ·exact .inr hb
  ·rw[if_neg hc];exact base
theorem jW {b:List UInt8} (hb:b.length≤700000) (ts:List Tv) (a:Nat) (h:(els a ts).map (elO b)=ts.map Tv.enc) (hin:∀x∈els a ts,x.stop≤b.length) (has:Bool) (id:List UInt8):pT b.length (fun v=>v.has=has∧v.id=id∧kdW v=true∧C0 ts=(if v.iss=[] then [] else Ai 2 1 true (Cg v.iss))++if v.ser=[] then [] else Ai 2 2 false v.ser) (ky1 b has id (els a ts)):=by
 have base:pT b.length (fun v=>v.has=has∧v.id=id∧kdW v=true∧C0 ts=(if v.iss=[] then [] else Ai 2 1 true (Cg v.iss))++if v.ser=[] then [] else Ai 2 2 false v.ser) (ky2 b has id [] (els a ts)):=by
  rcases jV ts a h hin has id [] with⟨v,⟨r1,r2,r3,r4,r5⟩,h4⟩|hb
  ·exact .inl ⟨v,⟨r1,r2,r4,by rw[r5,if_pos r3,List.nil_append]⟩,h4⟩
  ·exact .inr hb
 cases ts with
 |nil=>exact base
 |cons t r=>
  obtain⟨e1,e2,e3,e4,e5,e6⟩:=Kx h hin
  rw[e1] at base⊢
  rw[ky1]
  by_cases hc:(t.el a).isB 2 1 true=true
  ·rw[if_pos hc]
   obtain⟨d1,d2,d3⟩:=Of.1 hc
   have hbl:(bod b (t.el a)).length≤b.length:=by unfold bod;rw[Am,Az];omega
   have hel:=At 0 16 true (bod b (t.el a)) (by omega)
   rcases jT (Ai 0 16 true (bod b (t.el a))) (by omega) with⟨v,v0,v1,v2,v3⟩|⟨c,o,-,-,c2⟩
   ·rw[v3]
    show pT _ _ (ky2 b has id v (els _ r))
    have he:bod b (t.el a)=Cg v:=by
     have hl2:(Cg v).length≤2147483647:=by
      have:=Dh 0 16 true (Cg v)
      have e:Ai 0 16 true (Cg v)=Rj v:=rfl
      rw[e,←v2] at this;omega
     exact vM (c:=0) (n:=16) (k:=true) (by omega) (by omega) (by omega) hl2 v2
    rcases jV r _ e5 e6 has id v with⟨w,⟨r1,r2,r3,r4,r5⟩,h4⟩|hb
    ·refine .inl ⟨w,⟨r1,r2,r4,?_⟩,h4⟩
     rw[r3,if_neg v0,Ck,r5,←he,e2,Tv.enc,d1,d2,d3]
    ·exact .inr hb
   ·rw[c2]
    exact .inr ⟨6,_,by omega,Nat.le_trans e3 e4,rfl⟩
  ·rw[if_neg hc];exact base
theorem Mf {k:Kd} (h:kdW k=true):(kdP k (Cg k.iss)).flatten=(if k.has=true then Ai 2 0 false k.id else [])++((if k.iss=[] then [] else Ai 2 1 true (Cg k.iss))++if k.ser=[] then [] else Ai 2 2 false k.ser):=by
 have hs:=Sb h
 unfold kdP
 by_cases i0:k.iss=[]
 ·rw[if_pos i0,if_pos i0,if_pos (hs.2 i0)]
  cases k.has<;>simp
 ·rw[if_neg i0,if_neg i0,if_neg (fun e=>i0 (hs.1 e))]
  cases k.has<;>simp
theorem ET (b:List UInt8) (hb:b.length≤700000):pT b.length (fun v=>kdW v=true∧b=kdE v) (kyO b):=by
 unfold kyO
 by_cases h1:(Bd b 0 16).code≠0
 ·rw[if_pos h1]
  exact .inr ⟨_,_,h1,Ik b 0 16,rfl⟩
 rw[if_neg h1]
 obtain⟨ts,t1,t2,-,-,hl⟩:=J7 (Decidable.not_not.1 h1)
 obtain⟨q,p1,p2,-,-⟩:=Uy (c:=0) (n:=16) ts (by omega) (by omega) t1 hl
 rw[←t2] at p1 p2
 have hin:∀x∈els q ts,x.stop≤b.length:=fun x hx=>by
  have:=Em (b:=b) (c:=0) (n:=16) (x:=x) (by rw[p1];exact hx)
  omega
 rw[p1]
 show pT _ _ (ky0 b (els q ts))
 have base:pT b.length (fun v=>kdW v=true∧b=kdE v) (ky1 b false [] (els q ts)):=by
  rcases jW hb ts q p2 hin false [] with⟨v,⟨r1,r2,r3,r4⟩,h4⟩|hb
  ·refine .inl ⟨v,⟨r3,?_⟩,h4⟩
   unfold kdE
   rw[Mf r3,r1,if_neg (by simp),List.nil_append,←r4];exact t2
  ·exact .inr hb
 cases ts with
 |nil=>exact base
 |cons t r=>
  obtain⟨e1,e2,e3,e4,e5,e6⟩:=Kx p2 hin
  rw[e1] at base⊢
  rw[ky0]
  by_cases hc:(t.el q).isB 2 0 false=true
  ·rw[if_pos hc]
   obtain⟨d1,d2,d3⟩:=Of.1 hc
   rcases jW hb r _ e5 e6 true (bod b (t.el q)) with⟨v,⟨r1,r2,r3,r4⟩,h4⟩|hb
   ·refine .inl ⟨v,⟨r3,?_⟩,h4⟩
    unfold kdE
    rw[Mf r3,r1,if_pos rfl,←r4,r2,e2,t2,Ck,Tv.enc,d1,d2,d3]
   ·exact .inr hb
  ·rw[if_neg hc];exact base
structure Kd.mid (k:Kd):Prop where
 d:k.id.length≤50000000
 s:k.ser.length≤50000000
 i:gnsM k.iss
theorem AK {b:List UInt8} {has:Bool} {id:List UInt8} {iss:List Gn} {ser:List UInt8} {ts:List Tv} {a:Nat} (h:(els a ts).map (elO b)=ts.map Tv.enc) (hin:∀x∈els a ts,x.stop≤b.length) (hk:kdW ⟨has,id,iss,ser⟩=true) (ht:ts=if ser=[] then [] else [⟨2,2,false,ser⟩]):ky2 b has id iss (els a ts)=(some ⟨has,id,iss,ser⟩,0,0):=by
 by_cases s0:ser=[]
 ·rw[if_pos s0] at ht
  subst ht s0
  show(if kdW _=true then _ else _)=_
  rw[if_pos hk]
 ·rw[if_neg s0] at ht
  subst ht
  obtain⟨e1,e2,-,-,-,-⟩:=Kx h hin
  have e2:bod b _=ser:=e2
  rw[e1,ky2,if_pos (Of.2 ⟨rfl,rfl,rfl⟩),e2,if_neg s0]
  show(if kdW _=true then _ else _)=_
  rw[if_pos hk]
theorem jX {b:List UInt8} {has:Bool} {id:List UInt8} {iss:List Gn} {ser:List UInt8} {ts:List Tv} {a:Nat} (h:(els a ts).map (elO b)=ts.map Tv.enc) (hin:∀x∈els a ts,x.stop≤b.length) (hk:kdW ⟨has,id,iss,ser⟩=true) (hm:gnsM iss) (ht:ts=(if iss=[] then [] else [⟨2,1,true,Cg iss⟩])++if ser=[] then [] else [⟨2,2,false,ser⟩]):ky1 b has id (els a ts)=(some ⟨has,id,iss,ser⟩,0,0):=by
 have hs:=Sb hk
 simp only at hs
 by_cases i0:iss=[]
 ·have s0:=hs.2 i0
  rw[if_pos i0,if_pos s0] at ht
  subst ht i0 s0
  show(if kdW _=true then _ else _)=_
  rw[if_pos hk]
 ·have s0:ser≠[]:=fun e=>i0 (hs.1 e)
  rw[if_neg i0] at ht
  subst ht
  obtain⟨e1,e2,-,-,e5,e6⟩:=Kx (t:=⟨2,1,true,Cg iss⟩) h hin
  have e2:bod b _=Cg iss:=e2
  obtain⟨-,hv⟩:=Hx.1 hk
  have hv:=hv.resolve_left fun e=>i0 e.1
  have hg:Y2 (Ai 0 16 true (Cg iss))=(some iss,0,0):=AH i0 hv.2.1 hm
  show ky1 b has id (els a (_::_))=_
  rw[e1,ky1,if_pos (Of.2 ⟨rfl,rfl,rfl⟩),e2,hg]
  exact AK e5 e6 hk rfl
theorem EU {k:Kd} (h:kdW k=true) (hs:k.mid):kyO (kdE k)=(some k,0,0):=by
 obtain⟨has,id,iss,ser⟩:=k
 obtain⟨s1,s2,s3⟩:=hs
 simp only at s1 s2 s3
 have g1:(Cg iss).length≤800000000:=s3.e
 obtain⟨ts,ht⟩:∃ts:List Tv,ts=(if iss=[] then [] else [⟨2,1,true,Cg iss⟩])++if ser=[] then [] else [⟨2,2,false,ser⟩]:=⟨_,rfl⟩
 obtain⟨us,hu⟩:∃us:List Tv,us=(if has=true then [⟨2,0,false,id⟩] else [])++ts:=⟨_,rfl⟩
 have tok:∀t∈us,t.ok:=fun t hx=>by
  rw[hu,ht] at hx
  have:t=⟨2,0,false,id⟩∨t=⟨2,1,true,Cg iss⟩∨t=⟨2,2,false,ser⟩:=by
   simp only[List.mem_append] at hx
   rcases hx with hx|hx|hx
   ·split at hx
    ·exact .inl (by simpa using hx)
    ·simp at hx
   ·split at hx
    ·simp at hx
    ·exact .inr (.inl (by simpa using hx))
   ·split at hx
    ·simp at hx
    ·exact .inr (.inr (by simpa using hx))
  rcases this with rfl|rfl|rfl
  ·exact⟨by show(2:Nat)≤3;omega,by show(0:Nat)≤30;omega,by show id.length≤_;omega⟩
  ·exact⟨by show(2:Nat)≤3;omega,by show(1:Nat)≤30;omega,by show(Cg iss).length≤_;omega⟩
  ·exact⟨by show(2:Nat)≤3;omega,by show(2:Nat)≤30;omega,by show ser.length≤_;omega⟩
 have hf:(kdP ⟨has,id,iss,ser⟩ (Cg iss)).flatten=C0 us:=by
  have:=Mf h
  simp only at this
  rw[this,hu,ht]
  rw[Ff]
  by_cases i0:iss=[]<;>by_cases q0:ser=[]<;>cases has<;>simp[i0,q0,Tv.enc]
 have k0:=At 2 0 false id (by omega)
 have k1:=At 2 1 true (Cg iss) (by omega)
 have k2:=At 2 2 false ser (by omega)
 have hl:(C0 us).length≤2147483647:=by
  rw[←hf,Mf h]
  simp only
  rw[Ap,Ap]
  have a0:(if has=true then Ai 2 0 false id else []).length≤id.length+6:=by
   split
   ·omega
   ·simp
  have a1:(if iss=[] then [] else Ai 2 1 true (Cg iss)).length≤(Cg iss).length+6:=by
   split
   ·simp
   ·omega
  have a2:(if ser=[] then [] else Ai 2 2 false ser).length≤ser.length+6:=by
   split
   ·simp
   ·omega
  omega
 obtain⟨q,p1,p2,-,-⟩:=Uy (c:=0) (n:=16) us (by omega) (by omega) tok hl
 have hb:kdE ⟨has,id,iss,ser⟩=Ai 0 16 true (C0 us):=by unfold kdE;rw[←hf]
 rw[hb]
 generalize Ai 0 16 true (C0 us)=b at p1 p2
 have hin:∀x∈els q us,x.stop≤b.length:=fun x hx=>by
  have:=Em (b:=b) (c:=0) (n:=16) (x:=x) (by rw[p1];exact hx)
  omega
 unfold kyO
 rw[p1,if_neg (by simp)]
 show ky0 b (els q us)=_
 cases has with
 |true=>
  rw[if_pos rfl] at hu
  subst hu
  obtain⟨e1,e2,-,-,e5,e6⟩:=Kx (t:=⟨2,0,false,id⟩) p2 hin
  have e2:bod b _=id:=e2
  show ky0 b (els q (_::_))=_
  rw[e1,ky0,if_pos (Of.2 ⟨rfl,rfl,rfl⟩),e2]
  exact jX e5 e6 h s3 ht
 |false=>
  rw[if_neg (by simp),List.nil_append] at hu
  subst hu
  have hid:id=[]:=(Hx.1 h).1 rfl
  have h1:=jX p2 hin h s3 ht
  rw[hid] at h1⊢
  have h0:ky0 b (els q us)=ky1 b false [] (els q us):=by
   by_cases i0:iss=[]
   ·have q0:=(Sb h).2 i0
    simp only at q0
    rw[if_pos i0,if_pos q0] at ht
    subst ht;rfl
   ·rw[if_neg i0] at ht
    subst ht
    show ky0 b (_::_)=_
    rw[ky0,if_neg (by rw[Of];simp)]
    rfl
  rw[h0,h1]
theorem vN (k:Kd) (h:kdW k=true):k.id.length+(Cg k.iss).length+k.ser.length≤(kdP k (Cg k.iss)).flatten.length:=by
 rw[Mf h]
 have k0:=Dh 2 0 false k.id
 have k1:=Dh 2 1 true (Cg k.iss)
 have k2:=Dh 2 2 false k.ser
 rw[Ap,Ap]
 have a0:k.id.length≤(if k.has=true then Ai 2 0 false k.id else []).length:=by
  split
  ·omega
  ·rw[(Hx.1 h).1 (by simp_all)];simp
 have a1:(Cg k.iss).length≤(if k.iss=[] then [] else Ai 2 1 true (Cg k.iss)).length:=by
  split
  ·rename_i e;rw[e];simp[Cg]
  ·omega
 have a2:k.ser.length≤(if k.ser=[] then [] else Ai 2 2 false k.ser).length:=by
  split
  ·rename_i e;rw[e];simp
  ·omega
 omega
theorem jY {k:Kd} (h:kdW k=true) (hl:(kdE k).length≤400000):k.mid:=by
 have h1:=vN k h
 have h2:=Dh 0 16 true (kdP k (Cg k.iss)).flatten
 have e:(kdE k).length=(Ai 0 16 true (kdP k (Cg k.iss)).flatten).length:=rfl
 have hw:k.iss.all gnW=true:=by
  obtain⟨-,h|h⟩:=Hx.1 h
  ·rw[h.1];rfl
  ·exact h.2.1
 exact⟨by omega,by omega,cH hw (by show(Cg k.iss).length≤_;omega)⟩
theorem jZ {k:Kd} (hs:k.mid):(kdE k).length≤k.id.length+(Cg k.iss).length+k.ser.length+24:=by
 have s1:=hs.d
 have s2:=hs.s
 have s3:(Cg k.iss).length≤800000000:=hs.i.e
 have k0:=At 2 0 false k.id (by omega)
 have k1:=At 2 1 true (Cg k.iss) (by omega)
 have k2:=At 2 2 false k.ser (by omega)
 have h:(kdP k (Cg k.iss)).flatten.length≤k.id.length+(Cg k.iss).length+k.ser.length+18:=by
  unfold kdP
  cases k.has<;>by_cases i0:k.iss=[]<;>simp[i0]<;>omega
 have:=At 0 16 true (kdP k (Cg k.iss)).flatten (by omega)
 unfold kdE;omega
def Hp (k:Kd) (x:Tr):Kd:=if x.n=0 then⟨true,x.v,k.iss,k.ser⟩ else if x.n=1 then⟨k.has,k.id,x.ks.map Bn,k.ser⟩ else if x.n=2 then⟨k.has,k.id,k.iss,x.v⟩ else k
def kd0:Kd:=⟨false,[],[],[]⟩
def Qo (t:Tr):Kd:=t.ks.foldl Hp kd0
theorem AL {k:Kd} (h:kdW k=true) (hs:k.mid):Qo (D3 (kdE k))=k:=by
 have hle:=jZ hs
 obtain⟨has,id,iss,ser⟩:=k
 obtain⟨s1,s2,s3⟩:=hs
 simp only at s1 s2 s3 hle
 have g1:(Cg iss).length≤800000000:=s3.e
 have hw:iss.all gnW=true:=by
  obtain⟨-,h|h⟩:=Hx.1 h
  ·have h0:iss=[]:=h.1
   rw[h0];rfl
  ·exact h.2.1
 obtain⟨p1,p2⟩:=L5 (d:=20) (c:=2) (n:=0) id (by omega) (by omega) (by omega)
 obtain⟨ks,⟨q1,q2⟩,q3⟩:=AG hw s3 2 1 (by omega) (by omega)
 obtain⟨r1,r2⟩:=L5 (d:=20) (c:=2) (n:=2) ser (by omega) (by omega) (by omega)
 have k0:=At 2 0 false id (by omega)
 have k1:=At 2 1 true (Cg iss) (by omega)
 have k2:=At 2 2 false ser (by omega)
 have hfl:(kdP ⟨has,id,iss,ser⟩ (Cg iss)).flatten.length≤2147483600:=by
  have:=Dh 0 16 true (kdP ⟨has,id,iss,ser⟩ (Cg iss)).flatten
  have e:(kdE ⟨has,id,iss,ser⟩).length=(Ai 0 16 true (kdP ⟨has,id,iss,ser⟩ (Cg iss)).flatten).length:=rfl
  omega
 obtain⟨c1,c2⟩:=M2 (d:=21) (c:=0) (n:=16) (kdP ⟨has,id,iss,ser⟩ (Cg iss)) (by omega) (by omega) (fun p hp=>by
  have:p=Ai 2 0 false id∨p=Ai 2 1 true (Cg iss)∨p=Ai 2 2 false ser:=by
   unfold kdP at hp
   rw[List.mem_append] at hp
   rcases hp with hp|hp
   ·split at hp
    ·exact .inl (by simpa using hp)
    ·simp at hp
   ·split at hp
    ·simp at hp
    ·exact .inr (by simpa using hp)
  rcases this with rfl|rfl|rfl
  ·exact⟨p1,by omega⟩
  ·exact⟨q1,by omega⟩
  ·exact⟨r1,by omega⟩) hfl
 unfold kdE
 rw[uV (d:=22) ⟨c1,c2⟩ (by omega)]
 unfold Qo
 show((kdP ⟨has,id,iss,ser⟩ (Cg iss)).map (trD 21)).foldl Hp kd0=_
 have e0:∀k,Hp k (trD 21 (Ai 2 0 false id))=⟨true,id,k.iss,k.ser⟩:=fun k=>by rw[p2];rfl
 have e1:∀k,Hp k (trD 21 (Ai 2 1 true (Cg iss)))=⟨k.has,k.id,iss,k.ser⟩:=fun k=>by
  unfold Cg;rw[q2]
  show(⟨k.has,k.id,ks.map Bn,k.ser⟩:Kd)=_
  rw[q3]
 have e2:∀k,Hp k (trD 21 (Ai 2 2 false ser))=⟨k.has,k.id,k.iss,ser⟩:=fun k=>by rw[r2];rfl
 have hser:=Sb h
 simp only at hser
 have hid:has=false→id=[]:=(Hx.1 h).1
 unfold kdP
 by_cases i0:iss=[]
 ·have s0:=hser.2 i0
  simp only[if_pos i0,List.append_nil]
  cases has with
  |true=>
   show Hp kd0 (trD 21 (Ai 2 0 false id))=_
   rw[e0,i0,s0];rfl
  |false=>
   rw[hid rfl,i0,s0];rfl
 ·simp only[if_neg i0]
  cases has with
  |true=>
   show Hp (Hp (Hp kd0 (trD 21 (Ai 2 0 false id))) (trD 21 (Ai 2 1 true (Cg iss)))) (trD 21 (Ai 2 2 false ser))=_
   rw[e0,e1,e2]
  |false=>
   show Hp (Hp kd0 (trD 21 (Ai 2 1 true (Cg iss)))) (trD 21 (Ai 2 2 false ser))=_
   rw[e1,e2,hid rfl];rfl
structure Kd.zz (k:Kd):Prop where
 d:k.id.length≤1000000
 s:k.ser.length≤1000000
 i:gnsZ k.iss
theorem vO:gnsZ []:=⟨by simp,(fun g hg=>by cases hg),by simp⟩
theorem vP {x:Tr} (h:x.ok) (hl:x.enc.length≤3004):x.ks.length≤100000∧(∀k∈x.ks,k.gn)∧gnsZ (x.ks.map Bn):=by
 have hk:=Md h
 have hc:=Tr.encs_two x.ks
 have hp:=x.parts
 have hm:=Uu (f:=fun k=>gnE (Bn k)) (C:=400) (l:=x.ks) fun k hm=>vI (hk k hm).1 (by have:=(hk k hm).2;omega)
 have hf:((x.ks.map Bn).map gnE).flatten.length≤400*(Tr.encs x.ks).length:=by rw[List.map_map];exact hm
 refine⟨by omega,fun k hm=>FY (hk k hm).1 (by have:=(hk k hm).2;omega),⟨by rw[List.length_map];omega,fun g hg=> ?_,by omega⟩⟩
 obtain⟨k,hm,rfl⟩:=List.mem_map.1 hg
 exact jO (hk k hm).1 (by have:=(hk k hm).2;omega)
theorem vQ:∀{ks:List Tr} {k:Kd},(∀x∈ks,x.v.length≤1000000∧gnsZ (x.ks.map Bn))→k.zz→(ks.foldl Hp k).zz
 |[],_,_,h=>h
 |x::ks,k,h,hk=>by
  obtain⟨h1,h2⟩:=h x (by simp)
  rw[List.foldl_cons]
  refine vQ (fun y hy=>h y (by simp[hy])) ?_
  obtain⟨k1,k2,k3⟩:=hk
  unfold Hp
  split
  ·exact⟨h1,k2,k3⟩
  split
  ·exact⟨k1,k2,h2⟩
  split
  ·exact⟨k1,h1,k3⟩
  ·exact⟨k1,k2,k3⟩
theorem AM {b:List UInt8} (hb:b.length≤3000):(D3 b).ks.length≤100000∧(∀x∈(D3 b).ks,x.ks.length≤100000∧(∀k∈x.ks,k.gn))∧(Qo (D3 b)).zz:=by
 obtain⟨s1,s2⟩:=AE hb
 have hk:=Md s1
 have hc:=Tr.encs_two (D3 b).ks
 have hp:=(D3 b).parts
 have one:∀x∈(D3 b).ks,x.ks.length≤100000∧(∀k∈x.ks,k.gn)∧gnsZ (x.ks.map Bn):=fun x hx=>by
  obtain⟨k1,k2⟩:=hk x hx
  exact vP k1 (by omega)
 refine⟨by omega,fun x hx=>⟨(one x hx).1,(one x hx).2.1⟩,vQ (fun x hx=>⟨?_,(one x hx).2.2⟩) ⟨by simp[kd0],by simp[kd0],vO⟩⟩
 have:=(hk x hx).2
 have:=x.parts
 omega
def Uz (b:List UInt8) (k:Kd):Bool:=kdW k&&(kdE k==b)
theorem vR {b:List UInt8} {c o:Nat} (h:kyO b=(none,c,o)) (hb:b.length≤3000):Uz b (Qo (D3 b))=false:=by
 cases hr:Uz b (Qo (D3 b)) with
 |false=>rfl
 |true=>
  generalize Qo (D3 b)=v at hr
  unfold Uz at hr
  rw[Aw,beq_iff_eq] at hr
  have:=EU hr.1 (jY hr.1 (by rw[hr.2];omega))
  rw[hr.2,h] at this;cases this
theorem oH {b:List UInt8} {k:Kd} (hw:kdW k=true) (he:b=kdE k) (hb:b.length≤3000):k.mid∧Qo (D3 b)=k∧Uz b k=true:=by
 have hm:=jY hw (by rw[←he];omega)
 refine⟨hm,by rw[he];exact AL hw hm,?_⟩
 unfold Uz
 rw[hw,he,beq_self_eq_true];rfl
def oI (c:List UInt8) (i:Nat):Nat:=(c.getD (i/8) 0).toNat/2^(7-i%8)%2
def Qp (c:List UInt8) (i:Nat):Nat:=((List.range i).map (oI c)).sum
theorem Qq (c:List UInt8) (i:Nat):Qp c (i+1)=Qp c i+oI c i:=by
 unfold Qp
 rw[List.range_succ,List.map_append,List.sum_append];simp
theorem kA (c:List UInt8) (i:Nat):oI c i≤1:=by unfold oI;omega
theorem AN (c:List UInt8) (i:Nat):Qp c i≤i:=by
 induction i with
 |zero=>exact Nat.le_refl _
 |succ i ih=>rw[Qq];have:=kA c i;omega
theorem GB:∀x:Fin 256,(((List.range 8).map fun i=>x.val/2^(7-i%8)%2).sum=0↔x.val=0)∧(((List.range 8).map fun i=>x.val/2^(7-i%8)%2).sum=8↔x.val=255)∧((List.range 8).map fun i=>x.val/2^(7-i%8)%2).sum≤8:=by decide+kernel
theorem oJ (x y:UInt8) (r:List UInt8):M7 (x::y::r)=(!(Qp (x::y::r) 9==0)&& !(Qp (x::y::r) 9==9)):=by
 have h8:=GB ⟨x.toNat,x.toNat_lt⟩
 simp only at h8
 have e8:Qp (x::y::r) 8=((List.range 8).map fun i=>x.toNat/2^(7-i%8)%2).sum:=rfl
 have e9:Qp (x::y::r) 9=Qp (x::y::r) 8+y.toNat/128%2:=Qq _ 8
 rw[←e8] at h8
 rw[e9]
 generalize Qp (x::y::r) 8=s at h8
 obtain⟨a1,a2,a3⟩:=h8
 have hy:=y.toNat_lt
 have x0:x=0↔x.toNat=0:=by rw[←UInt8.toNat_inj];rfl
 have x1:x=255↔x.toNat=255:=by rw[←UInt8.toNat_inj];rfl
 unfold M7
 rw[Bool.eq_iff_iff]
 simp only[Aw,Bool.not_eq_true',Bool.and_eq_false_iff,beq_eq_false_iff_ne,ne_eq,decide_eq_false_iff_not]
 rw[x0,x1]
 omega
theorem BE {m:Nat} (n:Nat) (h:m<2^8): -9223372036854775808≤((m/n:Nat):Int)∧((m/n:Nat):Int)≤9223372036854775807:=by
 have h2:=Nat.div_le_self m n
 generalize m/n=q at h2⊢
 omega
theorem AO (x y:UInt8) (r:List UInt8) (i:Nat) (hi:i<9) (_:r.length≤100000000):Ab Tryz.prog 46 [.d (Ag false (x::y::r)),iv i] (fun q=>q=iv (oI (x::y::r) i)):=by
 have h0:(x::y::r)[0]?=some x:=rfl
 have h1:(x::y::r)[1]?=some y:=rfl
 have hx:=x.toNat_lt
 have hy:=y.toNat_lt
 rcases(by omega:i=0∨i=1∨i=2∨i=3∨i=4∨i=5∨i=6∨i=7∨i=8) with rfl|rfl|rfl|rfl|rfl|rfl|rfl|rfl|rfl
 all_goals
  refine acQ 16 Tryz.func46 rfl rfl fun _ _ _=> ?_
  (repeat'((conv=>whnf);first|refine NIdx.bytes h0 ?_|refine NIdx.bytes h1 ?_|(refine NInt.as _ (IntWalk.i64_in _ (BE _ hx)) ?_)|(refine NInt.as _ (IntWalk.i64_in _ (BE _ hy)) ?_)|(with_reducible refine NInt.i64 ?_)|(with_reducible refine Dt ?_)|(with_reducible refine B8 ?_)|(with_reducible refine NInt.shr ?_)|refine A8 (by first|decide|omega|(simp only[Ah,List.length_nil];omega)) ?_|exact zE))
theorem Fq {p:Prop} (h:p:=by first|rfl|(simp only[AV.gives,AV.ren,AV.give,D.un,D.uns,Al,Ak,List.nil_append,List.append_nil,List.cons_append,As,A0,Bb,A5,A2,Ba,Bi,Dn,Cq,C9,Cl,Tr.cellss_un,Pm,R8];first|done|rfl)):p:=h
theorem oK (l:List UInt8) (hl:l.length≤100000000):Ab Tryz.prog 26 [.d (Ag false l)] (fun r=>r=bv (M7 l)):=by
 match l,hl with
 |[],_=>
  refine acQ 26 Tryz.func26 rfl rfl fun _ _ _=> ?_
  (repeat'((conv=>whnf);refine Ac ?_));(all_goals(conv=>whnf))
  all_goals exact zE
 |[x],_=>
  refine acQ 26 Tryz.func26 rfl rfl fun _ _ _=> ?_
  (repeat'((conv=>whnf);first|refine Ac ?_|refine Af ?_|exact zE))
 |x::y::r,hl=>
  simp only[Ah] at hl
  rw[oJ]
  have g0:((((x::y::r).length:Nat):Int)==0)=false:=by rw[beq_eq_false_iff_ne];simp only[Ah];omega
  have g1:((((x::y::r).length:Nat):Int)==1)=false:=by rw[beq_eq_false_iff_ne];simp only[Ah];omega
  refine acQ 26 Tryz.func26 rfl rfl fun _ _ _=> ?_
  (repeat'((conv=>whnf);refine zN ?_));(all_goals(conv=>whnf))
  refine A4 (fun i:Nat=>i≤9) (fun i=>9-i) (fun i=>⟨[(0,.d (Ag false (x::y::r))),(3,iv (Qp (x::y::r) i)),(4,iv i)],[],[]⟩) 0 (by omega) leQ ?_
  intro i hi
  have hsl:=AN (x::y::r) i
  by_cases hik:i<9
  ·have gi:decide ((i:Int)<9)=true:=decide_eq_true (by omega)
   have hB:=AO x y r i hik (by omega)
   have hs:=Qq (x::y::r) i
   have hb1:=kA (x::y::r) i
   generalize Qp (x::y::r) i=s at hsl hs
   generalize oI (x::y::r) i=k at hB hs hb1
   (repeat'((conv=>whnf);first|refine zP ?_|refine Aa hB Fq ?_|refine NInt.as (((s+k:Nat):Int)) ((by rw[IntWalk.i64_in _ (by omega)];first|done|omega)) ?_|(with_reducible refine NInt.i64 ?_)));(all_goals(conv=>whnf))
   refine⟨i+1,by omega,by omega,?_⟩
   rw[hs]
   exact leQ
  ·have gi:decide ((i:Int)<9)=false:=decide_eq_false (by omega)
   obtain rfl:i=9:=by omega
   generalize Qp (x::y::r) 9=s at hsl⊢
   have e0:(((s:Nat):Int) !=0)= !(s==0):=by rw[Bool.eq_iff_iff];simp<;>omega
   have e9:(((s:Nat):Int) !=9)= !(s==9):=by rw[Bool.eq_iff_iff];simp<;>omega
   cases k0:(s==0)
   all_goals cases k9:(s==9)
   all_goals
    rw[k0] at e0
    rw[k9] at e9
    simp only[Bool.not_false,Bool.not_true] at e0 e9
    (repeat'((conv=>whnf);first|refine zP ?_|refine zN ?_|refine Ac ?_|refine Af ?_));(all_goals(conv=>whnf))
    all_goals(refine A6 ?_;(repeat'(first|exact Ay _|refine And.intro ?_ ?_|exact rfl));(all_goals(conv=>whnf)))
    all_goals(rw[e9];rfl)
theorem vS (k:Kd) (hz:k.zz):Ab Tryz.prog 13 [kdA k] (fun r=>r=bv (kdW k)):=by
 obtain⟨has,id,iss,ser⟩:=k
 obtain⟨l1,l2,l3⟩:=hz
 simp only at l1 l2 l3
 have hG:=oC iss l3
 have hI:=oK ser (by omega)
 have n3:=l3.n
 have kd:kdW ⟨has,id,iss,ser⟩=if has=false∧id≠[] then false else if(iss=[])≠(ser=[]) then false else iss=[]||Kc iss&&M7 ser:=rfl
 rw[kd]
 clear kd
 have posB:∀{l:List UInt8},l≠[]→decide ((l.length:Int)>0)=true:=fun h=>decide_eq_true (by have:=List.length_pos_iff.2 h;omega)
 have zB:∀{l:List UInt8},l≠[]→((l.length:Int)==0)=false:=fun h=>by rw[beq_eq_false_iff_ne];have:=List.length_pos_iff.2 h;omega
 have zG:iss≠[]→((iss.length:Int)==0)=false:=fun h=>by rw[beq_eq_false_iff_ne];have:=List.length_pos_iff.2 h;omega
 by_cases h1:has=false∧id≠[]
 ·rw[if_pos h1]
  obtain⟨rfl,hid⟩:=h1
  have g1:=posB hid
  refine acQ 30 Tryz.func13 rfl rfl fun _ _ _=> ?_
  (repeat'((conv=>whnf);first|refine zP ?_|refine Ac ?_|exact zE))
 rw[if_neg h1]
 have pre:(decide ((id.length:Int)>0)=false)∨(decide ((id.length:Int)>0)=true∧has=true):=by
  by_cases hid:id=[]
  ·subst hid;exact .inl rfl
  ·refine .inr ⟨posB hid,?_⟩
   cases has
   ·exact absurd ⟨rfl,hid⟩ h1
   ·rfl
 by_cases i0:iss=[]
 ·subst i0
  by_cases s0:ser=[]
  ·subst s0
   rw[if_neg (by simp)]
   rcases pre with g1|⟨g1,rfl⟩
   all_goals
    refine acQ 30 Tryz.func13 rfl rfl fun _ _ _=> ?_
    (repeat'((conv=>whnf);first|refine zP ?_|refine zN ?_|refine Ac ?_|refine Af ?_|exact zE))
  ·have g2:=zB s0
   rw[if_pos (by simp[s0])]
   have hG:Ab Tryz.prog 25 [.d (Hl [])] (fun r=>r=bv false):=hG
   rcases pre with g1|⟨g1,rfl⟩
   all_goals
    refine acQ 30 Tryz.func13 rfl rfl fun _ _ _=> ?_
    (repeat'((conv=>whnf);first|refine zP ?_|refine zN ?_|refine Ac ?_|refine Af ?_|refine Aa hG rfl ?_|exact zE))
 ·have g3:=zG i0
  have e:(if(iss=[])≠(ser=[]) then false else iss=[]||Kc iss&&M7 ser)=(Kc iss&&M7 ser):=by
   by_cases s0:ser=[]
   ·subst s0;rw[if_pos (by simp[i0])];simp[M7]
   ·rw[if_neg (by simp[i0,s0])];simp[i0]
  rw[e]
  cases hg:Kc iss
  all_goals
   rw[hg] at hG
   rcases pre with g1|⟨g1,rfl⟩
   all_goals
    refine acQ 30 Tryz.func13 rfl rfl fun _ _ _=> ?_
    (repeat'((conv=>whnf);first|refine zP ?_|refine zN ?_|refine Ac ?_|refine Af ?_|refine Aa hG Fq ?_|refine Aa hI Fq ?_|exact zE))
theorem vT (k:Kd) (hz:k.zz):Ab Tryz.prog 15 [kdA k] (fun r=>r=Qk (kdW k) (kdE k)):=by
 have hV:=vS k hz
 cases hw:kdW k
 ·rw[hw] at hV
  refine acQ 31 Tryz.func15 rfl rfl fun _ _ _=> ?_
  (repeat'((conv=>whnf);first|refine Ac ?_|refine Aa hV Fq ?_|exact zE))
 rw[hw] at hV
 obtain⟨l1,l2,l3⟩:=hz
 have n3:=l3.n
 have e3:(Cg k.iss).length≤90000000:=l3.e
 have k0:=At 2 0 false k.id (by omega)
 have k1:=At 2 1 true (Cg k.iss) (by omega)
 have k2:=At 2 2 false k.ser (by omega)
 have hpl:(kdP k (Cg k.iss)).flatten.length≤200000000∧(kdP k (Cg k.iss)).length≤3:=by
  unfold kdP
  cases k.has<;>by_cases i0:k.iss=[]<;>simp[i0]<;>omega
 have hS:=F6 48 (kdP k (Cg k.iss)) (by omega) (by omega)
 have eS:Ju 48 (kdP k (Cg k.iss)).flatten=kdE k:=rfl
 rw[eS] at hS
 have h0:Ab Tryz.prog 32 [cv 128,.d (Ag false k.id)] (fun r=>r=Be 0 5 (Ai 2 0 false k.id)):=Df 128 k.id (by omega)
 have h2:Ab Tryz.prog 32 [cv 130,.d (Ag false k.ser)] (fun r=>r=Be 0 5 (Ai 2 2 false k.ser)):=Df 130 k.ser (by omega)
 have h1:k.iss.all gnW=true→Ab Tryz.prog 33 [cv 161,.d (Hl k.iss)] (fun r=>r=Be 0 5 (Ai 2 1 true (Cg k.iss))):=vG 161 k.iss l3
 have hwi:=(Hx.1 hw).2
 have hPs:kdP k (Cg k.iss)=(if k.has then [Ai 2 0 false k.id] else [])++(if k.iss=[] then [] else [Ai 2 1 true (Cg k.iss),Ai 2 2 false k.ser]):=rfl
 show Ab _ _ _ (fun r=>r= .tup [Be 0 5 (kdE k),iv 0])
 generalize kdE k=R at hS⊢
 clear hw
 obtain⟨has,id,iss,ser⟩:=k
 simp only at h0 h1 h2 hwi hPs n3
 generalize Ai 2 0 false id=w0 at h0 hPs
 generalize Ai 2 1 true (Cg iss)=w1 at h1 hPs
 generalize Ai 2 2 false ser=w2 at h2 hPs
 by_cases i0:iss=[]
 ·rw[if_pos i0] at hPs
  rw[hPs] at hS
  subst i0
  cases has
  all_goals
   refine acQ 31 Tryz.func15 rfl rfl fun _ _ _=> ?_
   (repeat'((conv=>whnf);first|refine Ac ?_|refine Af ?_|refine Aa hV Fq ?_|refine Aa h0 Fq ?_|refine Mq Fe w0 ?_|refine Aa hS Fq ?_|refine Bj hS U6 ?_|exact zE))
 ·rw[if_neg i0] at hPs
  rw[hPs] at hS
  have hw1:=h1 (hwi.resolve_left fun e=>i0 e.1).2.1
  have gi:=ES i0
  cases has
  ·refine acQ 31 Tryz.func15 rfl rfl fun _ _ _=> ?_
   (repeat'((conv=>whnf);first|refine zP ?_|refine Af ?_|refine Aa hV Fq ?_|refine Aa hw1 Fq ?_|refine Aa h2 Fq ?_|(refine NApp.tab0 Fe (m:=[w1,w2]) rfl rfl ?_)|refine Aa hS Fq ?_|refine zF ?_|exact zE))
  ·refine acQ 31 Tryz.func15 rfl rfl fun _ _ _=> ?_
   (repeat'((conv=>whnf);first|refine zP ?_|refine Ac ?_|refine Af ?_|refine Aa hV Fq ?_|refine Aa h0 Fq ?_|refine Mq Fe w0 ?_|refine Aa hw1 Fq ?_|refine Aa h2 Fq ?_|(refine NApp.tab Fe (l:=[w0]) (m:=[w1,w2]) rfl rfl ?_)|refine Aa hS Fq ?_|refine zF ?_|exact zE))
abbrev kdF (k:Kd):AV:= .agg [bv k.has,.d (Ag false k.id),.d (vF k.iss),.d (Ag false k.ser)]
theorem Io {p:Prop} (h:p:=by first|rfl|(simp only[AV.gives,AV.ren,AV.give,D.un,D.uns,Al,Ak,List.nil_append,List.append_nil,List.cons_append,As,A0,Bb,A5,A2,Ba,Bi,Dn,Cq,C9,Cl,Tr.cellss_un,Pm,R8];first|done|rfl)):p:=h
theorem vU (t:Tr) (hn:t.ks.length≤100000) (hk:∀x∈t.ks,x.ks.length≤100000∧∀k∈x.ks,k.gn):Ab Tryz.prog 43 [trF t] (fun r=>r=kdF (Qo t)):=by
 obtain⟨c,n,k,b,ks⟩:=t
 rw[Ca]
 unfold Qo
 simp only[Tr.ks] at hn hk⊢
 refine acQ 37 Tryz.func43 rfl rfl fun _ _ _=> ?_
 (all_goals(conv=>whnf))
 refine A4 (fun z:Nat×Kd=>z.1≤ks.length∧(ks.take z.1).foldl Hp kd0=z.2) (fun z=>ks.length-z.1) (fun z=>⟨[(1,.ptr 1 0),(2,.ptr 2 0),(3,.ptr 3 0),(4,iv z.1)],[(1,[iv c,iv n,bv k,.d (Ag false b),.d (.sl false ks.length 5 (Tr.cellss false ks))]),(2,[bv false,Bc,Bc,Bc]),(3,[bv z.2.has,.d (Ag false z.2.id),.d (vF z.2.iss),.d (Ag false z.2.ser)])],[]⟩) (0,kd0) ⟨by simp,rfl⟩ leQ ?_
 rintro⟨i,⟨has,id,iss,ser⟩⟩ ⟨hi,he⟩
 simp only at hi he
 by_cases hik:i<ks.length
 ·have gi:decide ((i:Int)<ks.length)=true:=decide_eq_true (by omega)
  obtain⟨x,hg⟩:∃p,ks[i]?=some p:=⟨_,Ar hik⟩
  obtain⟨x1,x2⟩:=hk x (Bl hg)
  have hR:=oD x x1 x2
  have hfs:=gK Hp kd0 hg
  rw[he] at hfs
  obtain⟨c',n',k',b',ks'⟩:=x
  rw[Ca] at hR
  have hks:(Tr.mk c' n' k' b' ks').ks=ks':=rfl
  rw[hks] at hR
  have hrd:Hp ⟨has,id,iss,ser⟩ (.mk c' n' k' b' ks')=if n'=0 then⟨true,b',iss,ser⟩ else if n'=1 then⟨has,id,ks'.map Bn,ser⟩ else if n'=2 then⟨has,id,iss,b'⟩ else⟨has,id,iss,ser⟩:=rfl
  rw[hrd] at hfs
  generalize ks'.map Bn=is2 at hR hfs
  by_cases n0:n'=0
  ·have g0:((n':Int)==0)=true:=by rw[beq_iff_eq];omega
   rw[if_pos n0] at hfs
   (repeat'((conv=>whnf);first|refine zP ?_|(refine Fd hg ?_)|(with_reducible refine NInt.i64 ?_)));(all_goals(conv=>whnf))
   refine⟨(i+1,_),⟨by show i+1≤_;omega,hfs⟩,by show ks.length-(i+1)<ks.length-i;omega,?_⟩
   exact leQ
  have g0:((n':Int)==0)=false:=by rw[beq_eq_false_iff_ne];omega
  rw[if_neg n0] at hfs
  by_cases n1:n'=1
  ·have g1:((n':Int)==1)=true:=by rw[beq_iff_eq];omega
   rw[if_pos n1] at hfs
   (repeat'((conv=>whnf);first|refine zP ?_|refine zN ?_|(refine Fd hg ?_)|refine Aa hR Io ?_|(with_reducible refine NInt.i64 ?_)));(all_goals(conv=>whnf))
   refine⟨(i+1,_),⟨by show i+1≤_;omega,hfs⟩,by show ks.length-(i+1)<ks.length-i;omega,?_⟩
   exact leQ
  have g1:((n':Int)==1)=false:=by rw[beq_eq_false_iff_ne];omega
  rw[if_neg n1] at hfs
  by_cases n2:n'=2
  ·have g2:((n':Int)==2)=true:=by rw[beq_iff_eq];omega
   rw[if_pos n2] at hfs
   (repeat'((conv=>whnf);first|refine zP ?_|refine zN ?_|(refine Fd hg ?_)|(with_reducible refine NInt.i64 ?_)));(all_goals(conv=>whnf))
   refine⟨(i+1,_),⟨by show i+1≤_;omega,hfs⟩,by show ks.length-(i+1)<ks.length-i;omega,?_⟩
   exact leQ
  have g2:((n':Int)==2)=false:=by rw[beq_eq_false_iff_ne];omega
  rw[if_neg n2] at hfs
  (repeat'((conv=>whnf);first|refine zP ?_|refine zN ?_|(refine Fd hg ?_)|(with_reducible refine NInt.i64 ?_)));(all_goals(conv=>whnf))
  refine⟨(i+1,_),⟨by show i+1≤_;omega,hfs⟩,by show ks.length-(i+1)<ks.length-i;omega,?_⟩
  exact leQ
 ·have gi:decide ((i:Int)<ks.length)=false:=decide_eq_false (by omega)
  obtain rfl:i=ks.length:=by omega
  rw[List.take_length] at he
  rw[he]
  (repeat'((conv=>whnf);refine zN ?_));(all_goals(conv=>whnf))
  all_goals exact zE
theorem GC {k:Kd} (hz:k.zz):(kdE k).length≤800000000:=by
 obtain⟨l1,l2,l3⟩:=hz
 have e3:(Cg k.iss).length≤90000000:=l3.e
 have k0:=At 2 0 false k.id (by omega)
 have k1:=At 2 1 true (Cg k.iss) (by omega)
 have k2:=At 2 2 false k.ser (by omega)
 have hpl:(kdP k (Cg k.iss)).flatten.length≤200000000:=by
  unfold kdP
  cases k.has<;>by_cases i0:k.iss=[]<;>simp[i0]<;>omega
 have:=At 0 16 true (kdP k (Cg k.iss)).flatten (by omega)
 unfold kdE;omega
theorem vV (b:List UInt8) (hb:b.length≤3000):Ab Tryz.prog 20 [.d (Ag false b)] (fun r=>r=if Uz b (Qo (D3 b))=true then .tup [kdF (Qo (D3 b)),bv true] else .tup [.agg [bv false,Bc,Bc,Bc],bv false]):=by
 obtain⟨g1,g2,g3⟩:=AM hb
 have hD:=tA b (by omega)
 have hR:=vU (D3 b) g1 g2
 have hM:=vT _ g3
 have hle:=GC g3
 have hB:=C4 false false (kdE (Qo (D3 b))) b (by omega) (by omega)
 unfold Uz
 clear hle g3
 generalize Qo (D3 b)=v at hR hM hB⊢
 obtain⟨has,id,iss,ser⟩:=v
 generalize kdE ⟨has,id,iss,ser⟩=X at hM hB⊢
 generalize kdW ⟨has,id,iss,ser⟩=W at hM⊢
 clear g1 g2
 generalize D3 b=t at hD hR
 generalize ((Da 60 b).code==0)=q at hD
 obtain⟨c,n,k,b',ks⟩:=t
 rw[Ca] at hR
 rw[Yc rfl] at hD
 cases W with
 |false=>
  have hM:Ab Tryz.prog 15 [kdA ⟨has,id,iss,ser⟩] (fun r=>r= .tup [Bc,iv 8]):=hM
  rw[Bool.false_and]
  refine acQ 31 Tryz.func20 rfl rfl fun _ _ _=> ?_
  (repeat'((conv=>whnf);first|refine Ac ?_|refine Aa hD Io ?_|refine Aa hR Io ?_|refine Aa hM Io ?_|exact zE))
 |true=>
  have hM:Ab Tryz.prog 15 [kdA ⟨has,id,iss,ser⟩] (fun r=>r= .tup [Be 0 5 X,iv 0]):=hM
  rw[Bool.true_and]
  cases hq:(X==b)
  all_goals
   rw[hq] at hB
   clear hq
   refine acQ 31 Tryz.func20 rfl rfl fun _ _ _=> ?_
   (repeat'((conv=>whnf);first|refine Ac ?_|refine Af ?_|refine Aa hD Io ?_|refine Aa hR Io ?_|refine Aa hM Io ?_|refine Aa hB Io ?_|exact zE))
structure Kd.eqs (k:Kd):Prop where
 d:k.id.length≤1000000000
 s:k.ser.length≤1000000000
 i:k.iss.length≤1000000∧∀p∈k.iss,p.eqs
instance:DecidableEq Kd:=fun a b=>decidable_of_iff (a.has=b.has∧a.id=b.id∧a.iss=b.iss∧a.ser=b.ser) (by obtain⟨a1,a2,a3,a4⟩:=a;obtain⟨b1,b2,b3,b4⟩:=b;simp)
theorem GD (a b:Kd):decide (a=b)=((a.has==b.has)&&((a.id==b.id)&&(decide (a.iss=b.iss)&&(a.ser==b.ser)))):=by
 obtain⟨a1,a2,a3,a4⟩:=a;obtain⟨b1,b2,b3,b4⟩:=b
 rw[Bool.eq_iff_iff];simp
theorem vW (a b:Kd) (ha:a.eqs) (hb:b.eqs):Ab Tryz.prog 19 [kdA a,kdA b] (fun r=>r=bv (decide (a=b))):=by
 have h1:=C4 false false a.id b.id ha.d hb.d
 have h2:=Yy a.iss b.iss ha.i hb.i
 have h3:=C4 false false a.ser b.ser ha.s hb.s
 rw[GD]
 obtain⟨a1,a2,a3,a4⟩:=a;obtain⟨b1,b2,b3,b4⟩:=b
 simp only at h1 h2 h3⊢
 generalize (a2==b2)=q1 at h1⊢
 generalize decide (a3=b3)=q2 at h2⊢
 generalize (a4==b4)=q3 at h3⊢
 cases a1<;>cases b1<;>cases q1<;>cases q2
 all_goals
  refine acQ 31 Tryz.func19 rfl rfl fun _ _ _=> ?_
  (repeat'((conv=>whnf);first|refine Ac ?_|refine Af ?_|refine Aa h1 Io ?_|refine Aa h2 Io ?_|refine Aa h3 Io ?_|exact zE))
theorem Wv (k:Kd) (h:k.mid):Ab Tryz.prog 17 [kdA k] (fun r=>r=bv (kdW k)):=
 L3 k (Kc k.iss) ⟨by have:=h.d;omega,by have:=h.i.n;omega,by have:=h.s;omega⟩ fun _=>gF k.iss h.i
end Go.Proofs.YtgamacmidohpfaaGreatDoor
