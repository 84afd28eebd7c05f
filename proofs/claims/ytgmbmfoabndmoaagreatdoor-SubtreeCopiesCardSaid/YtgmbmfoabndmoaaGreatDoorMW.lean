/- MW: the texts SbP SbM SbL SbRp SbW LawSM LawSC LawSE LawSK, one behind the other. No condition but what each lemma says. -/
import Derived.Test.YtgmbmfoabndmoaaGreatDoorMT
import Derived.Test.YtgmbmfoabndmoaaGreatDoorMH
import Derived.Test.YtgmbmfoabndmoaaGreatDoorMG
import Derived.Test.YtgmbmfoabndmoaaGreatDoorMJ
import Derived.Test.YtgmbmfoabndmoaaGreatDoorMC
set_option maxRecDepth 100000
set_option maxHeartbeats 16000000
namespace Go.Proofs.YtgmbmfoabndmoaaGreatDoor
open Go.RowKit
def trE (g:Gn):List UInt8:=Ae 0 16 true (gnE g)
def Bn (l:List Gn):List UInt8:=(l.map trE).flatten
def sbP (i:Nat) (l:List Gn):List UInt8:=Ae 2 i true (Bn l)
def Ep (P E:List Gn):List (List UInt8):=(if P=[] then [] else [sbP 0 P])++(if E=[] then [] else [sbP 1 E])
def sbE (P E:List Gn):List UInt8:=Ae 0 16 true (Ep P E).flatten
def sbV (P E:List Gn):Bool:= !(P.isEmpty&&E.isEmpty)&&(P.all gnW&&E.all gnW)
theorem Kj {P E:List Gn}:sbV P E=true↔(P≠[]∨E≠[])∧P.all gnW=true∧E.all gnW=true:=by
 unfold sbV
 cases P<;>cases E<;>simp
theorem iT {b:List UInt8} {a en:Nat} (h1:a≤en):b.take en=b.take a++(b.drop a).take (en-a):=by
 obtain⟨k,rfl⟩:∃k,en=a+k:=⟨en-a,by omega⟩
 rw[List.take_add,Nat.add_sub_cancel_left]
theorem Qn {b:List UInt8} {a en:Nat} (h1:a≤en) (h2:en≤b.length) {ts:List Tv} (ht:∀t∈ts,t.ok) (h:(b.drop a).take (en-a)=Cf ts):A3 b a en=⟨els a ts,0,0⟩∧(els a ts).map (elO b)=ts.map Tv.enc:=by
 have hp:(b.take a).length=a:=by rw[List.length_take];omega
 have hs:b.take en=b.take a++Cf ts:=by rw[←h];exact iT h1
 have e1:=Mo ts b (b.take a) en ht hs h2
 have e2:=R6 ts b (b.take a) en hs h2
 rw[hp] at e1 e2
 exact⟨e1,e2⟩
theorem pX (b:List UInt8) (a en:Nat) (h1:a≤en) (h2:en≤b.length):(∃ts:List Tv,(∀t∈ts,t.ok)∧(b.drop a).take (en-a)=Cf ts∧A3 b a en=⟨els a ts,0,0⟩∧(els a ts).map (elO b)=ts.map Tv.enc)∨(A3 b a en).code≠0:=by
 by_cases h:(A3 b a en).code=0
 ·obtain⟨ts,t1,t2,t3⟩:=Mp _ b a en (Nat.le_refl _) h1 h2 h
  exact .inl ⟨ts,t1,t3,Qn h1 h2 t1 t3⟩
 ·exact .inr h
theorem pY {b:List UInt8} {a en:Nat} (h:a≤en) (hto:en≤b.length):(A3 b a en).off≤b.length:=W2 hto _ _ h
theorem Kk {c n:Nat} (ts:List Tv) (hc:c≤3) (hn:n≤30) (ht:∀t∈ts,t.ok) (hl:(Cf ts).length≤2147483647):∃h:Nat,Ar (Ae c n true (Cf ts)) c n=⟨els h ts,0,0⟩∧(els h ts).map (elO (Ae c n true (Cf ts)))=ts.map Tv.enc∧(Ae c n true (Cf ts)).drop h=Cf ts∧(Ae c n true (Cf ts)).length=h+(Cf ts).length:=by
 obtain⟨t,e⟩:∃t:Tv,t=⟨c,n,true,Cf ts⟩:=⟨_,rfl⟩
 have hOk:t.ok:=by subst e;exact⟨hc,hn,hl⟩
 have he:Ae c n true (Cf ts)=t.enc:=by subst e;rfl
 have hv:t.v=Cf ts:=by subst e;rfl
 have hi:(t.el 0).isB c n true=true:=by subst e;simp[El.isB,Tv.el]
 have hlen:=t.len
 have hb:=t.body
 rw[he]
 have hp:Ar t.enc c n=A3 t.enc t.hd t.enc.length:=by
  unfold Ar
  rw[Hz hOk,if_neg (by simp)]
  simp only[hi]
  rw[if_neg (by simp)]
  show A3 t.enc (0+t.hd) (0+t.enc.length)=_
  rw[Nat.zero_add,Nat.zero_add]
 obtain⟨e1,e2⟩:=Qn (b:=t.enc) (a:=t.hd) (en:=t.enc.length) (by omega) (Nat.le_refl _) ht (by rw[hb,hv];exact List.take_of_length_le (by rw[←hv];omega))
 exact⟨t.hd,by rw[hp,e1],e2,by rw[hb,hv],by rw[hlen,hv]⟩
def trX (p:List UInt8):List El→Option (List UInt8)
 |[x]=>some (p.drop x.at')
 |_=>none
def trI (p:List UInt8):Option (List UInt8):=if(Ar p 0 16).code≠0 then none else trX p (Ar p 0 16).l
theorem BJ {t:Tv} (ht:t.ok) (hl:t.enc.length≤2147483647):trI (Ae 0 16 true t.enc)=some t.enc:=by
 have e:Cf [t]=t.enc:=by rw[A0];exact List.append_nil _
 obtain⟨h,p1,-,p3,-⟩:=Kk (c:=0) (n:=16) [t] (by omega) (by omega) (fun u hu=>by rw[List.mem_singleton] at hu;subst hu;exact ht) (by rw[e];exact hl)
 rw[e] at p1 p3
 unfold trI
 rw[p1,if_neg (by simp)]
 show some ((Ae 0 16 true t.enc).drop h)=_
 rw[p3]
theorem BK {p s:List UInt8} (h:trI p=some s):p=Ae 0 16 true s∧s.length≤p.length:=by
 unfold trI at h
 by_cases h1:(Ar p 0 16).code≠0
 ·rw[if_pos h1] at h;cases h
 rw[if_neg h1] at h
 obtain⟨ts,t1,t2,-,-,hl⟩:=Jq (Decidable.not_not.1 h1)
 have hpl:p.length=1+(Eb (Cf ts).length).length+(Cf ts).length:=by
  conv=>lhs;rw[t2]
  exact D4 _ _
 obtain⟨q,p1,-,p3,-⟩:=Kk (c:=0) (n:=16) ts (by omega) (by omega) t1 hl
 rw[←t2] at p1 p3
 rw[p1] at h
 match ts,h,p3,t2,hpl with
 |[t],h,p3,t2,hpl=>
  have h:some (p.drop q)=some s:=h
  rw[p3] at h
  obtain rfl:=Option.some.inj h
  exact⟨t2,by omega⟩
 |[],h,_,_,_=>cases h
 |_::_::_,h,_,_,_=>cases h
def vTr (p:List UInt8):Option Gn:=match trI p with
 |none=>none
 |some s=>Kr s
theorem BL {g:Gn} (h:gnW g=true) (hs:g.mid):vTr (trE g)=some g:=by
 obtain⟨t,t1,t2⟩:=FT h hs
 have:=Sd hs
 have e:trI (trE g)=some (gnE g):=by
  unfold trE
  rw[t2]
  exact BJ t1 (by rw[←t2];omega)
 unfold vTr
 rw[e]
 exact cV h hs
theorem BN {p:List UInt8} {g:Gn} (h:vTr p=some g) (hl:p.length≤800000):gnW g=true∧p=trE g:=by
 unfold vTr at h
 cases hi:trI p with
 |none=>rw[hi] at h;cases h
 |some s=>
  rw[hi] at h
  obtain⟨i1,i2⟩:=BK hi
  obtain⟨g1,g2⟩:=vK (show Kr s=some g from h) (by omega)
  exact⟨g1,by unfold trE;rw[←g2];exact i1⟩
def trS:List (List UInt8)→Option (List Gn)
 |[]=>some []
 |p::r=>match vTr p with
  |none=>none
  |some g=>(trS r).map (g:: ·)
def sbL (b:List UInt8):List El→Option (List Gn)×Nat×Nat
 |[]=>(some [],0,0)
 |x::r=>match trI (elO b x) with
  |none=>(none,6,x.at')
  |some s=>match Kr s with
   |none=>(none,(Za s).1,x.body)
   |some g=>match sbL b r with
    |(some gs,_)=>(some (g::gs),0,0)
    |(none,p)=>(none,p)
theorem Vc (b:List UInt8):∀l:List El,(sbL b l).1.isSome=true→(sbL b l).2=(0,0)
 |[],_=>rfl
 |x::r,h=>by
  rw[sbL] at h⊢
  cases hi:trI (elO b x) with
  |none=>rw[hi] at h;cases h
  |some s=>
   rw[hi] at h
   simp only at h⊢
   cases hv:Kr s with
   |none=>rw[hv] at h;cases h
   |some m=>
    rw[hv] at h
    cases hp:sbL b r with
    |mk o p=>rw[hp] at h;cases o with
     |none=>cases h
     |some ms=>rfl
theorem pZ (b:List UInt8) (l:List El):Va [] (sbL b l)=sbL b l:=by
 have h:=Vc b l
 cases hp:sbL b l with
 |mk o p=>
  rw[hp] at h
  cases o with
  |none=>rfl
  |some ms=>have:=h rfl;simp only at this;subst this;rfl
theorem iU {b s:List UInt8} {x:El} {r:List El} {m:Gn} (ms:List Gn) (hi:trI (elO b x)=some s) (hv:Kr s=some m):Va ms (sbL b (x::r))=Va (ms++[m]) (sbL b r):=by
 rw[sbL,hi]
 simp only[hv]
 cases hp:sbL b r with
 |mk o p=>cases o with
  |none=>rfl
  |some l=>simp[Va]
theorem Zn (b:List UInt8):∀l:List El,(sbL b l).1=trS (l.map (elO b))
 |[]=>rfl
 |x::r=>by
  have ih:=Zn b r
  rw[sbL,List.map_cons,trS]
  unfold vTr
  cases hi:trI (elO b x) with
  |none=>rfl
  |some s=>
   simp only
   cases hv:Kr s with
   |none=>rfl
   |some m=>
    simp only
    rw[←ih]
    cases hp:sbL b r with
    |mk o p=>cases o<;>rfl
theorem lO {b:List UInt8}:∀{l:List El},(∀x∈l,x.at'≤b.length∧x.body≤b.length)→(sbL b l).1=none→(sbL b l).2.1≠0∧(sbL b l).2.2≤b.length
 |[],_,h=>by cases h
 |x::r,hx,h=>by
  have ih:=lO (b:=b) (l:=r) fun y hy=>hx y (by simp[hy])
  obtain⟨x1,x2⟩:=hx x (by simp)
  rw[sbL] at h⊢
  cases hi:trI (elO b x) with
  |none=>exact⟨by show(6:Nat)≠0;omega,x1⟩
  |some s=>
   rw[hi] at h
   simp only at h⊢
   cases hv:Kr s with
   |none=>exact⟨(Zb s).1,x2⟩
   |some m=>
    rw[hv] at h
    cases hp:sbL b r with
    |mk o p=>
     rw[hp] at h ih
     cases o with
     |none=>exact ih rfl
     |some ms=>cases h
theorem lP:∀{v:List Gn},v.all gnW=true→(∀m∈v,m.mid)→trS (v.map trE)=some v
 |[],_,_=>rfl
 |m::r,h,hs=>by
  rw[List.all_cons,Bool.and_eq_true] at h
  rw[List.map_cons,trS,BL h.1 (hs m (by simp)),lP h.2 fun k hk=>hs k (by simp[hk])];rfl
theorem lQ:∀{ps:List (List UInt8)} {v:List Gn},(∀p∈ps,p.length≤800000)→trS ps=some v→v.all gnW=true∧ps=v.map trE
 |[],v,_,h=>by
  rw[trS] at h
  obtain rfl:=Option.some.inj h
  exact⟨rfl,rfl⟩
 |p::r,v,hl,h=>by
  rw[trS] at h
  cases hv:vTr p with
  |none=>rw[hv] at h;cases h
  |some m=>
   rw[hv] at h
   cases hr:trS r with
   |none=>rw[hr] at h;cases h
   |some w=>
    rw[hr] at h
    obtain rfl:=Option.some.inj h
    obtain⟨k1,k2⟩:=BN hv (hl p (by simp))
    obtain⟨k3,k4⟩:=lQ (fun q hq=>hl q (by simp[hq])) hr
    exact⟨by rw[List.all_cons,k1,k3];rfl,by rw[List.map_cons,←k2,←k4]⟩
def sbN (e:Nat):Option (List Gn)×Nat×Nat→Option (List Gn)×Nat×Nat
 |(some [],_)=>(none,1,e)
 |q=>q
def Zo (b:List UInt8) (y:El):Option (List Gn)×Nat×Nat:=if(A3 b y.body y.stop).code≠0 then(none,(A3 b y.body y.stop).code,(A3 b y.body y.stop).off) else sbN y.stop (sbL b (A3 b y.body y.stop).l)
theorem Zp (b:List UInt8) (hb:b.length≤800000) (y:El) (h1:y.body≤y.stop) (h2:y.stop≤b.length):(∃l:List Gn,l≠[]∧l.all gnW=true∧bod b y=Bn l∧Zo b y=(some l,0,0))∨(∃c o:Nat,c≠0∧o≤b.length∧Zo b y=(none,c,o)):=by
 unfold Zo
 rcases pX b y.body y.stop h1 h2 with⟨ts,t1,t2,t3,t4⟩|hc
 ·rw[t3,if_neg (by simp)]
  have hin:=fun x=>Ov (b:=b) (frm:=y.body) h2 (x:=x)
  rw[t3] at hin
  have hlt:(Cf ts).length≤800000:=by
   have:=congrArg List.length t2
   rw[List.length_take,List.length_drop] at this;omega
  have hf:=Zn b (els y.body ts)
  rw[t4] at hf
  have hoff:=lO (b:=b) (l:=els y.body ts) fun x hx=>by
   have:=hin x hx
   omega
  have hz:=Vc b (els y.body ts)
  show(∃l:List Gn,l≠[]∧l.all gnW=true∧bod b y=Bn l∧sbN y.stop (sbL b (els y.body ts))=(some l,0,0))∨(∃c o:Nat,c≠0∧o≤b.length∧sbN y.stop (sbL b (els y.body ts))=(none,c,o))
  cases hp:sbL b (els y.body ts) with
  |mk o p=>
   rw[hp] at hf hoff hz
   obtain⟨c,p⟩:=p
   simp only at hf hoff hz
   cases o with
   |none=>exact .inr ⟨c,p,(hoff rfl).1,(hoff rfl).2,rfl⟩
   |some v=>
    obtain⟨k1,k2⟩:=lQ (fun p hp=>by
     have:=Fz hp
     rw[←E7] at this;omega) hf.symm
    have hz:=hz rfl
    simp only[Prod.mk.injEq] at hz
    obtain⟨rfl,rfl⟩:=hz
    cases v with
    |nil=>exact .inr ⟨1,y.stop,by omega,h2,rfl⟩
    |cons m r=>
     refine .inl ⟨m::r,by simp,k1,?_,rfl⟩
     show(b.drop y.body).take (y.stop-y.body)=_
     rw[t2,E7,k2];rfl
 ·rw[if_pos hc]
  exact .inr ⟨_,_,hc,pY h1 h2,rfl⟩
theorem FU {g:Gn} (hs:g.mid):∃t:Tv,t.ok∧trE g=t.enc:=by
 have:=Sd hs
 exact⟨⟨0,16,true,gnE g⟩,⟨by show(0:Nat)≤3;omega,by show(16:Nat)≤30;omega,by show(gnE g).length≤_;omega⟩,rfl⟩
theorem BO {b:List UInt8} {y:El} (h1:y.body≤y.stop) (h2:y.stop≤b.length) {l:List Gn} (h0:l≠[]) (hw:l.all gnW=true) (hs:∀g∈l,g.mid) (he:bod b y=Bn l):Zo b y=(some l,0,0):=by
 obtain⟨ts,t1,t2⟩:=R7 (l:=l.map trE) fun p hp=>by
  obtain⟨m,hm,rfl⟩:=List.mem_map.1 hp
  exact FU (hs m hm)
 have hfl:Bn l=Cf ts:=by unfold Bn;rw[t2,E7]
 obtain⟨e1,e2⟩:=Qn h1 h2 t1 (show(b.drop y.body).take (y.stop-y.body)=Cf ts by rw[←hfl];exact he)
 have hf:=Zn b (els y.body ts)
 rw[e2,←t2,lP hw hs] at hf
 have hz:=Vc b (els y.body ts) (by rw[hf];rfl)
 unfold Zo
 rw[e1,if_neg (by simp)]
 show sbN y.stop (sbL b (els y.body ts))=_
 rw[show sbL b (els y.body ts)=(some l,0,0) from Prod.ext hf hz]
 cases l with
 |nil=>exact absurd rfl h0
 |cons a r=>rfl
def sbF (b:List UInt8):List El→Int→List Gn→List Gn→Option (List Gn×List Gn)×Nat×Nat
 |[],last,P,E=>if last<0 then(none,1,b.length) else(some (P,E),0,0)
 |y::r,last,P,E=>if y.isB 2 y.n true=false∨1<y.n∨(y.n:Int)≤last then(none,3,y.at') else match Zo b y with
  |(none,p)=>(none,p)
  |(some ns,_)=>if y.n=0 then sbF b r 0 ns E else sbF b r y.n P ns
def sbO (b:List UInt8):Option (List Gn×List Gn)×Nat×Nat:=if(Ar b 0 16).code≠0 then(none,(Ar b 0 16).code,(Ar b 0 16).off) else sbF b (Ar b 0 16).l (-1) [] []
def sbT (b:List UInt8) (R:List Gn×List Gn→Prop) (q:Option (List Gn×List Gn)×Nat×Nat):Prop:=(∃P E,R (P,E)∧q=(some (P,E),0,0))∨(∃c o:Nat,c≠0∧o≤b.length∧q=(none,c,o))
theorem Zq {t:Tv} {a n:Nat}:(t.el a).isB 2 n true=true↔t.c=2∧t.n=n∧t.k=true:=by
 unfold El.isB Tv.el
 simp only[Bool.and_eq_true,beq_iff_eq]
 exact⟨fun⟨⟨a,b⟩,c⟩=>⟨a,c,b⟩,fun⟨a,b,c⟩=>⟨⟨a,c⟩,b⟩⟩
theorem Kl {t:Tv} {ts:List Tv} {b:List UInt8} {a:Nat} (h:(els a (t::ts)).map (elO b)=(t::ts).map Tv.enc) (hin:∀x∈els a (t::ts),x.stop≤b.length):els a (t::ts)=t.el a::els (a+t.enc.length) ts∧bod b (t.el a)=t.v∧(t.el a).body≤(t.el a).stop∧(t.el a).stop≤b.length∧(els (a+t.enc.length) ts).map (elO b)=ts.map Tv.enc∧(∀x∈els (a+t.enc.length) ts,x.stop≤b.length):=by
 have e:els a (t::ts)=t.el a::els (a+t.enc.length) ts:=rfl
 rw[e] at h hin
 rw[List.map_cons,List.map_cons,List.cons.injEq] at h
 have hl:=t.len
 have hs:=hin (t.el a) (by simp)
 refine⟨e,?_,by show a+t.hd≤a+t.enc.length;omega,hs,h.2,fun x hx=>hin x (by simp[hx])⟩
 have h1:(b.drop a).take (a+t.enc.length-a)=t.enc:=h.1
 have h2:=congrArg (List.drop t.hd) h1
 rw[List.drop_take,t.body,List.drop_drop] at h2
 show(b.drop (a+t.hd)).take (a+t.enc.length-(a+t.hd))=_
 rw[←h2];congr 1;omega
theorem dI {b:List UInt8} (ts:List Tv) (a:Nat) (h:(els a ts).map (elO b)=ts.map Tv.enc) (hin:∀x∈els a ts,x.stop≤b.length) (P E:List Gn):sbT b (fun r=>r=(P,E)∧ts=[]) (sbF b (els a ts) (1:Nat) P E):=by
 cases ts with
 |nil=>exact .inl ⟨P,E,⟨rfl,rfl⟩,rfl⟩
 |cons t r=>
  obtain⟨e1,-,e3,e4,-,-⟩:=Kl h hin
  rw[e1,sbF]
  by_cases hc:(t.el a).isB 2 (t.el a).n true=false∨1<(t.el a).n∨((t.el a).n:Int)≤(1:Nat)
  ·rw[if_pos hc]
   exact .inr ⟨3,a,by omega,by have:a+t.hd≤_:=e3;have:_≤b.length:=e4;omega,rfl⟩
  ·exfalso;omega
theorem wW {b:List UInt8} (hb:b.length≤800000) (ts:List Tv) (a:Nat) (h:(els a ts).map (elO b)=ts.map Tv.enc) (hin:∀x∈els a ts,x.stop≤b.length) (P:List Gn):sbT b (fun r=>r.1=P∧r.2.all gnW=true∧(Cf ts=if r.2=[] then [] else sbP 1 r.2)) (sbF b (els a ts) 0 P []):=by
 cases ts with
 |nil=>exact .inl ⟨P,[],⟨rfl,rfl,rfl⟩,rfl⟩
 |cons t r=>
  obtain⟨e1,e2,e3,e4,e5,e6⟩:=Kl h hin
  rw[e1,sbF]
  by_cases hc:(t.el a).isB 2 (t.el a).n true=false∨1<(t.el a).n∨((t.el a).n:Int)≤0
  ·rw[if_pos hc]
   exact .inr ⟨3,a,by omega,by have:a+t.hd≤_:=e3;have:_≤b.length:=e4;omega,rfl⟩
  ·rw[if_neg hc]
   simp only[not_or,Bool.not_eq_false] at hc
   obtain⟨c1,c2,c3⟩:=hc
   have hn:t.n=1:=by have:(t.el a).n=t.n:=rfl;omega
   obtain⟨d1,-,d3⟩:=Zq.1 c1
   rcases Zp b hb (t.el a) e3 e4 with⟨l,l0,l1,l2,l3⟩|⟨c,o,c0,c1,c2⟩
   ·rw[l3]
    simp only
    rw[if_neg (by show¬t.n=0;omega),show(((t.el a).n:Nat):Int)=(1:Nat) by show((t.n:Nat):Int)=_;rw[hn]]
    rcases dI r (a+t.enc.length) e5 e6 P l with⟨P',E',⟨r1,r2⟩,r3⟩|hbad
    ·obtain⟨rfl,rfl⟩:=Prod.mk.inj r1
     refine .inl ⟨P',E',⟨rfl,l1,?_⟩,r3⟩
     subst r2
     show _=if E'=[] then [] else sbP 1 E'
     rw[if_neg l0,A0]
     show t.enc++[]=_
     rw[List.append_nil]
     unfold sbP
     rw[←l2,e2,Tv.enc,d1,hn,d3]
    ·exact .inr hbad
   ·rw[c2]
    exact .inr ⟨c,o,c0,c1,rfl⟩
theorem Vd (b:List UInt8) (hb:b.length≤800000):sbT b (fun r=>sbV r.1 r.2=true∧b=sbE r.1 r.2) (sbO b):=by
 unfold sbO
 by_cases h1:(Ar b 0 16).code≠0
 ·rw[if_pos h1]
  exact .inr ⟨_,_,h1,Ka b 0 16,rfl⟩
 rw[if_neg h1]
 obtain⟨ts,t1,t2,-,-,hl⟩:=Jq (Decidable.not_not.1 h1)
 obtain⟨q,p1,p2,-,-⟩:=Kk (c:=0) (n:=16) ts (by omega) (by omega) t1 hl
 rw[←t2] at p1 p2
 have hin:∀x∈els q ts,x.stop≤b.length:=fun x hx=>by
  have:=D9 (b:=b) (c:=0) (n:=16) (x:=x) (by rw[p1];exact hx)
  omega
 rw[p1]
 show sbT b _ (sbF b (els q ts) (-1) [] [])
 cases ts with
 |nil=>exact .inr ⟨1,b.length,by omega,Nat.le_refl _,rfl⟩
 |cons t r=>
  obtain⟨e1,e2,e3,e4,e5,e6⟩:=Kl p2 hin
  rw[e1,sbF]
  by_cases hc:(t.el q).isB 2 (t.el q).n true=false∨1<(t.el q).n∨((t.el q).n:Int)≤ -1
  ·rw[if_pos hc]
   exact .inr ⟨3,q,by omega,by have:q+t.hd≤_:=e3;have:_≤b.length:=e4;omega,rfl⟩
  ·rw[if_neg hc]
   simp only[not_or,Bool.not_eq_false] at hc
   obtain⟨c1,c2,c3⟩:=hc
   have hn:t.n=0∨t.n=1:=by have:(t.el q).n=t.n:=rfl;omega
   obtain⟨d1,-,d3⟩:=Zq.1 c1
   rcases Zp b hb (t.el q) e3 e4 with⟨l,l0,l1,l2,l3⟩|⟨c,o,c0,c1,c2⟩
   ·rw[l3]
    simp only
    rcases hn with hn|hn
    ·rw[if_pos (show(t.el q).n=0 from hn)]
     rcases wW hb r (q+t.enc.length) e5 e6 l with⟨P',E',⟨r1,r2,r3⟩,r4⟩|hbad
     ·simp only at r1 r2 r3
      subst r1
      refine .inl ⟨P',E',⟨Kj.2 ⟨.inl l0,l1,r2⟩,?_⟩,r4⟩
      rw[t2,A0,r3]
      unfold sbE Ep
      rw[if_neg l0]
      have:t.enc=sbP 0 P':=by unfold sbP;rw[←l2,e2,Tv.enc,d1,hn,d3]
      rw[this]
      by_cases hE:E'=[]
      ·subst hE;simp
      ·simp[hE]
     ·exact .inr hbad
    ·rw[if_neg (show¬(t.el q).n=0 by show¬t.n=0;omega),show(((t.el q).n:Nat):Int)=(1:Nat) by show((t.n:Nat):Int)=_;rw[hn]]
     rcases dI r (q+t.enc.length) e5 e6 [] l with⟨P',E',⟨r1,r2⟩,r3⟩|hbad
     ·obtain⟨rfl,rfl⟩:=Prod.mk.inj r1
      refine .inl ⟨[],E',⟨Kj.2 ⟨.inr l0,rfl,l1⟩,?_⟩,r3⟩
      subst r2
      have:t.enc=sbP 1 E':=by unfold sbP;rw[←l2,e2,Tv.enc,d1,hn,d3]
      rw[t2,A0,this]
      unfold sbE Ep
      rw[if_pos rfl,if_neg l0]
      show Ae 0 16 true (_++[])=_
      simp
     ·exact .inr hbad
   ·rw[c2]
    exact .inr ⟨c,o,c0,c1,rfl⟩
structure sbM (P E:List Gn):Prop where
 p:P.length≤1000000
 q:E.length≤1000000
 m:∀g∈P,g.mid
 n:∀g∈E,g.mid
 e:(Bn P).length≤400000000
 f:(Bn E).length≤400000000
theorem Mv {i:Nat} {l:List Gn} (h:(Bn l).length≤800000000):(Bn l).length+2≤(sbP i l).length∧(sbP i l).length≤(Bn l).length+6:=by
 have:=Dq 2 i true (Bn l)
 have:=Al 2 i true (Bn l) (by omega)
 exact⟨by unfold sbP;omega,by unfold sbP;omega⟩
theorem Sf {b:List UInt8} {t:Tv} {a:Nat} {l:List Gn} {i:Nat} (ht:t=⟨2,i,true,Bn l⟩) (e2:bod b (t.el a)=t.v) (e3:(t.el a).body≤(t.el a).stop) (e4:(t.el a).stop≤b.length) (h0:l≠[]) (hw:l.all gnW=true) (hs:∀g∈l,g.mid) (hi:i≤1) (last:Int) (hlast:last<i) (P E:List Gn) (r:List El):sbF b (t.el a::r) last P E=if i=0 then sbF b r 0 l E else sbF b r i P l:=by
 subst ht
 rw[sbF]
 rw[if_neg (by
  simp only[not_or,Bool.not_eq_false]
  exact⟨Zq.2 ⟨rfl,rfl,rfl⟩,by show¬1<i;omega,by show¬(i:Int)≤last;omega⟩),BO e3 e4 h0 hw hs (by rw[e2])]
 rfl
theorem Qo {P E:List Gn} (h:sbV P E=true) (hs:sbM P E):sbO (sbE P E)=(some (P,E),0,0):=by
 obtain⟨h0,hP,hE⟩:=Kj.1 h
 obtain⟨-,-,s1,s2,s3,s4⟩:=hs
 have lp:=(Mv (i:=0) (l:=P) (by omega)).2
 have lq:=(Mv (i:=1) (l:=E) (by omega)).2
 obtain⟨t,ht⟩:∃t:Tv,t=⟨2,0,true,Bn P⟩:=⟨_,rfl⟩
 obtain⟨u,hu⟩:∃u:Tv,u=⟨2,1,true,Bn E⟩:=⟨_,rfl⟩
 have t1:t.ok:=by subst ht;exact⟨by show(2:Nat)≤3;omega,by show(0:Nat)≤30;omega,by show(Bn P).length≤_;omega⟩
 have u1:u.ok:=by subst hu;exact⟨by show(2:Nat)≤3;omega,by show(1:Nat)≤30;omega,by show(Bn E).length≤_;omega⟩
 have t2:t.enc=sbP 0 P:=by subst ht;rfl
 have u2:u.enc=sbP 1 E:=by subst hu;rfl
 have key:∀ts:List Tv,(∀t∈ts,t.ok)→Cf ts=(Ep P E).flatten→∃q,sbO (sbE P E)=sbF (sbE P E) (els q ts) (-1) [] []∧(els q ts).map (elO (sbE P E))=ts.map Tv.enc∧∀x∈els q ts,x.stop≤(sbE P E).length:=fun ts ok e=>by
  have hl:(Cf ts).length≤2147483647:=by
   rw[e];unfold Ep
   split<;>split<;>simp<;>omega
  obtain⟨q,p1,p2,-,-⟩:=Kk (c:=0) (n:=16) ts (by omega) (by omega) ok hl
  rw[e] at p1 p2
  refine⟨q,?_,p2,fun x hx=> ?_⟩
  ·unfold sbO sbE
   rw[p1,if_neg (by simp)]
  ·have:=D9 (b:=sbE P E) (c:=0) (n:=16) (x:=x) (by unfold sbE;rw[p1];exact hx)
   omega
 by_cases p0:P=[]
 ·have q0:=h0.resolve_left (fun h=>h p0)
  obtain⟨q,k1,k2,k3⟩:=key [u] (fun x hx=>by rw[List.mem_singleton] at hx;subst hx;exact u1) (by
   rw[A0,u2];unfold Ep;rw[if_pos p0,if_neg q0]
   show sbP 1 E++[]=_
   simp)
  obtain⟨e1,e2,e3,e4,-,-⟩:=Kl k2 k3
  rw[k1,e1,Sf hu e2 e3 e4 q0 hE s2 (by omega) _ (by omega),if_neg (by omega)]
  show(some ([],E),0,0)=_
  rw[p0]
 ·by_cases q0:E=[]
  ·obtain⟨q,k1,k2,k3⟩:=key [t] (fun x hx=>by rw[List.mem_singleton] at hx;subst hx;exact t1) (by
    rw[A0,t2];unfold Ep;rw[if_neg p0,if_pos q0]
    show sbP 0 P++[]=_
    simp)
   obtain⟨e1,e2,e3,e4,-,-⟩:=Kl k2 k3
   rw[k1,e1,Sf ht e2 e3 e4 p0 hP s1 (by omega) _ (by omega),if_pos rfl]
   show(some (P,[]),0,0)=_
   rw[q0]
  ·obtain⟨q,k1,k2,k3⟩:=key [t,u] (fun x hx=>by
    rcases List.mem_cons.1 hx with rfl|hx
    ·exact t1
    ·rw[List.mem_singleton] at hx;subst hx;exact u1) (by
    rw[A0,A0,t2,u2];unfold Ep;rw[if_neg p0,if_neg q0]
    show sbP 0 P++(sbP 1 E++[])=_
    simp)
   obtain⟨e1,e2,e3,e4,e5,e6⟩:=Kl k2 k3
   obtain⟨d1,d2,d3,d4,-,-⟩:=Kl e5 e6
   rw[k1,e1,Sf ht e2 e3 e4 p0 hP s1 (by omega) _ (by omega),if_pos rfl,d1,Sf hu d2 d3 d4 q0 hE s2 (by omega) _ (by omega),if_neg (by omega)]
   rfl
theorem BP {P E P' E':List Gn} (h:sbV P E=true) (h':sbV P' E'=true) (hs:sbM P E) (hs':sbM P' E') (e:sbE P E=sbE P' E'):P=P'∧E=E':=by
 have a:=Qo h hs
 rw[e,Qo h' hs'] at a
 simp only[Prod.mk.injEq,Option.some.injEq,and_true] at a
 exact⟨a.1.symm,a.2.symm⟩
theorem L1 (P E:List Gn) (h1:(Bn P).length≤400000000) (h2:(Bn E).length≤400000000):(Bn P).length+(Bn E).length≤(Ep P E).flatten.length∧(Ep P E).flatten.length≤(Bn P).length+(Bn E).length+12:=by
 have lp:=Mv (i:=0) (l:=P) (by omega)
 have lq:=Mv (i:=1) (l:=E) (by omega)
 unfold Ep
 by_cases p0:P=[]<;>by_cases q0:E=[]
 ·subst p0 q0;exact⟨by simp[Bn],by simp[Bn]⟩
 ·subst p0;rw[if_pos rfl,if_neg q0];simp[Bn] at*;omega
 ·subst q0;rw[if_neg p0,if_pos rfl];simp[Bn] at*;omega
 ·rw[if_neg p0,if_neg q0];simp;omega
theorem lR {P E:List Gn} (h1:(Bn P).length≤400000000) (h2:(Bn E).length≤400000000):(Bn P).length+(Bn E).length+2≤(sbE P E).length∧(sbE P E).length≤(Bn P).length+(Bn E).length+18:=by
 have h:=L1 P E h1 h2
 have:=Dq 0 16 true (Ep P E).flatten
 have:=Al 0 16 true (Ep P E).flatten (by omega)
 exact⟨by unfold sbE;omega,by unfold sbE;omega⟩
theorem Zr (P E:List Gn):(Bn P).length+(Bn E).length+2≤(sbE P E).length:=by
 have h0:=Dq 0 16 true (Ep P E).flatten
 have h1:=Dq 2 0 true (Bn P)
 have h2:=Dq 2 1 true (Bn E)
 have:(Bn P).length+(Bn E).length≤(Ep P E).flatten.length:=by
  unfold Ep
  by_cases p0:P=[]<;>by_cases q0:E=[]
  ·subst p0 q0;simp[Bn]
  ·subst p0;rw[if_pos rfl,if_neg q0];simp[Bn,sbP] at*;omega
  ·subst q0;rw[if_neg p0,if_pos rfl];simp[Bn,sbP] at*;omega
  ·rw[if_neg p0,if_neg q0];simp[sbP];omega
 unfold sbE;omega
theorem iV (g:Gn):(gnE g).length+2≤(trE g).length:=Dq 0 16 true (gnE g)
theorem lS {l:List Gn} (h:l.all gnW=true) (hl:(Bn l).length≤400000):l.length≤200000∧∀g∈l,g.mid:=by
 have hc:=Pm trE 2 (l:=l) fun g _=>by have:=iV g;omega
 refine⟨by unfold Bn at hl;omega,fun g hg=>BH (List.all_eq_true.1 h g hg) ?_⟩
 have:=Fz (p:=trE g) (l:=l.map trE) (List.mem_map_of_mem hg)
 have:=iV g
 unfold Bn at hl;omega
theorem Po {P E:List Gn} (h:sbV P E=true) (hl:(sbE P E).length≤400000):sbM P E:=by
 obtain⟨-,hP,hE⟩:=Kj.1 h
 have hg:=Zr P E
 obtain⟨a1,a2⟩:=lS hP (by omega)
 obtain⟨b1,b2⟩:=lS hE (by omega)
 exact⟨by omega,by omega,a2,b2,by omega,by omega⟩
theorem iW {l:List Gn} (h:Ci l=true):l.length≤8∧(∀g∈l,g.mid)∧(Bn l).length≤187184:=by
 obtain⟨h1,h2,-⟩:=M9 h
 have h3:∀l:List Gn,l.all Ig=true→(Bn l).length≤23398*l.length:=by
  intro l
  induction l with
  |nil=>intro _;simp[Bn]
  |cons a r ih=>
   intro h
   rw[List.all_cons,Bool.and_eq_true] at h
   have h1:=(Se h.1).2
   have h2:=ih h.2
   have h3:=Al 0 16 true (gnE a) (by omega)
   unfold Bn at h2⊢
   rw[List.map_cons,List.flatten_cons,List.length_append,List.length_cons]
   show(Ae 0 16 true (gnE a)).length+_≤_
   omega
 have h4:=h3 l h2
 exact⟨h1,fun g hg=>(Se (List.all_eq_true.1 h2 g hg)).1,by omega⟩
theorem wX {P E:List Gn} (h1:Ci P=true) (h2:Ci E=true):sbM P E∧(sbE P E).length≤374386:=by
 obtain⟨a1,a2,a3⟩:=iW h1
 obtain⟨b1,b2,b3⟩:=iW h2
 have:=(lR (P:=P) (E:=E) (by omega) (by omega)).2
 exact⟨⟨by omega,by omega,a2,b2,by omega,by omega⟩,by omega⟩
abbrev sbA (P E:List Gn):AV:= .agg [.d (Df P),.d (Df E)]
theorem lU {l:List Gn} (hl:l.length≤1000000) (hm:∀g∈l,g.mid) (he:(Bn l).length≤400000000):gnsM l:=by
 have h3:∀l:List Gn,(l.map gnE).flatten.length≤(Bn l).length:=by
  intro l
  induction l with
  |nil=>simp[Bn]
  |cons a r ih=>
   have:=iV a
   unfold Bn at ih⊢
   rw[List.map_cons,List.flatten_cons,List.length_append,List.map_cons,List.flatten_cons,List.length_append];omega
 have:=h3 l
 exact⟨by omega,hm,by omega⟩
theorem Zs {l:List Gn} (h:l≠[]):Zk l=l.all gnW:=by
 unfold Zk
 cases l with
 |nil=>exact absurd rfl h
 |cons a r=>rfl
theorem I1 {p:Prop} (h:p:=by first|rfl|(simp only[AV.gives,AV.ren,AV.give,D.un,D.uns,Ah,Ai,List.nil_append,List.append_nil,List.cons_append,Am,Av,Bv,A1,As,Bp,Bx,Cz,By,Ce,Br];first|done|rfl)):p:=h
theorem Xd (l:List Gn) (h:gnsM l):Aa Tryz.prog 26 [.d (Df l)] (fun r=>r=bv (l.all gnW)):=by
 have hn:=h.n
 have hV:=iQ l h
 by_cases h0:l=[]
 ·subst h0
  refine acQ 10 Tryz.func26 rfl rfl fun _ _ _=> ?_
  (repeat'((conv=>whnf);refine NBr.yes ?_));(all_goals(conv=>whnf))
  all_goals exact NEnd.eq leQ
 ·have g0:((l.length:Int)==0)=false:=by rw[beq_eq_false_iff_ne];intro h;exact h0 (List.eq_nil_of_length_eq_zero (by omega))
  rw[Zs h0] at hV
  refine acQ 10 Tryz.func26 rfl rfl fun _ _ _=> ?_
  (repeat'((conv=>whnf);first|refine NBr.neg asQ ?_|refine NBr.no ?_|refine NCall.eq hV I1 ?_));(all_goals(conv=>whnf))
  all_goals exact NEnd.eq leQ
theorem Pp {l:List Gn} (h:l≠[]):0<l.length:=List.length_pos_iff.2 h
theorem Qp (P E:List Gn) (h:sbM P E):Aa Tryz.prog 13 [sbA P E] (fun r=>r=bv (sbV P E)):=by
 obtain⟨p,q,m,n,e,f⟩:=h
 have h1:=Xd P (lU p m e)
 have h2:=Xd E (lU q n f)
 by_cases h0:P=[]∧E=[]
 ·obtain⟨rfl,rfl⟩:=h0
  refine acQ 24 Tryz.func13 rfl rfl fun _ _ _=> ?_
  (repeat'((conv=>whnf);first|refine NBr.no ?_|(with_reducible refine NInt.i64 ?_)));(all_goals(conv=>whnf))
  all_goals exact NEnd.eq leQ
 ·have hpos:0<P.length+E.length:=by
   rcases Decidable.not_and_iff_or_not.1 h0 with h|h
   ·have:=Pp h;omega
   ·have:=Pp h;omega
  have g0:decide (((P.length:Int)+(E.length:Int))>0)=true:=decide_eq_true (by omega)
  have e0:sbV P E=(P.all gnW&&E.all gnW):=by
   unfold sbV
   cases P<;>cases E<;>simp at h0⊢
  rw[e0]
  cases hP:P.all gnW
  ·rw[hP] at h1
   refine acQ 24 Tryz.func13 rfl rfl fun _ _ _=> ?_
   (repeat'((conv=>whnf);first|refine NBr.pos asQ ?_|refine NBr.yes ?_|refine NBr.no ?_|refine NCall.eq h1 I1 ?_|(with_reducible refine NInt.i64 ?_)));(all_goals(conv=>whnf))
   all_goals exact NEnd.eq leQ
  ·rw[hP] at h1
   refine acQ 24 Tryz.func13 rfl rfl fun _ _ _=> ?_
   (repeat'((conv=>whnf);first|refine NBr.pos asQ ?_|refine NBr.yes ?_|refine NCall.eq h1 I1 ?_|refine NCall.eq h2 I1 ?_|(with_reducible refine NInt.i64 ?_)));(all_goals(conv=>whnf))
   all_goals exact NEnd.eq leQ
def sbI (P E:List Gn):Nat→List (List UInt8)
 |0=>[]
 |1=>if P=[] then [] else [sbP 0 P]
 |_=>Ep P E
def FV (l:List Gn):List D:=[Df l]
theorem wY {P E l:List Gn} {i:Nat} (hg:[P,E][i]?=some l):sbI P E (i+1)=if l=[] then sbI P E i else sbI P E i++[sbP i l]:=by
 match i,hg with
 |0,hg=>
  obtain rfl:P=l:=Option.some.inj hg
  show(if P=[] then [] else [sbP 0 P])=if P=[] then [] else []++[sbP 0 P]
  rfl
 |1,hg=>
  obtain rfl:E=l:=Option.some.inj hg
  show Ep P E=if E=[] then sbI P E 1 else sbI P E 1++[sbP 1 E]
  unfold Ep sbI
  by_cases h:E=[]
  ·rw[if_pos h,if_pos h,List.append_nil];rfl
  ·rw[if_neg h,if_neg h];rfl
 |i+2,hg=>simp at hg
theorem Zt (P E:List Gn):∀i,(sbI P E i).length≤2
 |0=>by simp[sbI]
 |1=>by
  show(if P=[] then [] else [sbP 0 P]).length≤2
  split<;>simp
 |i+2=>by
  show(Ep P E).length≤2
  unfold Ep
  split<;>split<;>simp
theorem Gk (P E:List Gn) (h:sbM P E):Aa Tryz.prog 10 [sbA P E] (fun r=>r=Qh (sbV P E) (sbE P E)):=by
 have hV:=Qp P E h
 obtain⟨p,q,m,n,e,f⟩:=h
 have hpl:=(L1 P E e f).2
 cases hw:sbV P E
 ·rw[hw] at hV
  refine acQ 78 Tryz.func10 rfl rfl fun _ _ _=> ?_
  (repeat'((conv=>whnf);first|refine NBr.yes ?_|refine NCall.eq hV I1 ?_));(all_goals(conv=>whnf))
  all_goals exact NEnd.eq leQ
 rw[hw] at hV
 obtain⟨-,wP,wE⟩:=Kj.1 hw
 have hS:=J4 (Ep P E) (by omega) (by have:=Zt P E 2;have e:sbI P E 2=Ep P E:=rfl;rw[e] at this;omega)
 have eS:Ae 0 16 true (Ep P E).flatten=sbE P E:=rfl
 rw[eS] at hS
 have hT:D.sl false 2 1 [Df P,Df E]=F4 false 1 FV [P,E]:=rfl
 show Aa _ _ _ (fun r=>r= .tup [Aq 0 5 (sbE P E),iv 0])
 refine acQ 78 Tryz.func10 rfl rfl fun _ _ _=> ?_
 (repeat'((conv=>whnf);first|refine NBr.no ?_|refine NCall.eq hV I1 ?_));(all_goals(conv=>whnf))
 refine NLoop.goA [.s 4 1 27] (fun i:Nat=>i≤2) (fun i=>2-i) (fun i=>⟨[(4,Ce 4 1 27 Dk (sbI P E i)),(22,.d (F4 false 1 FV [P,E])),(23,iv 2),(24,iv i)],[],[(4,((sbI P E i).length,1,27))]⟩) 0 (by omega) leQ ?_
 intro i hi
 have hil:=Zt P E i
 by_cases hik:i<2
 ·have gi:decide ((i:Int)<2)=true:=decide_eq_true (by omega)
  obtain⟨l,hg⟩:∃l,[P,E][i]?=some l:=⟨_,List.getElem?_eq_getElem (by simpa using hik)⟩
  have hfact:l.length≤1000000∧(∀g∈l,g.mid)∧(Bn l).length≤400000000∧l.all gnW=true:=by
   match i,hg with
   |0,hg=>obtain rfl:P=l:=Option.some.inj hg;exact⟨p,m,e,wP⟩
   |1,hg=>obtain rfl:E=l:=Option.some.inj hg;exact⟨q,n,f,wE⟩
  obtain⟨l1,l2,l3,l4⟩:=hfact
  have hnx:=wY hg
  generalize hr:sbI P E i=pr at hil hnx
  generalize hr':sbI P E (i+1)=pr' at hnx
  (repeat'((conv=>whnf);first|refine NBr.pos asQ ?_|refine NIdx.tab (fun _=>rfl) hg ?_));(all_goals(conv=>whnf))
  refine NLoop.goA [.s 7 1 27] (fun j:Nat=>j≤l.length) (fun j=>l.length-j) (fun j=>⟨[(4,Ce 4 1 27 Dk pr),(5,iv i),(7,Ce 7 1 27 Dk ((l.take j).map trE)),(22,.d (F4 false 1 FV [P,E])),(23,iv 2),(24,iv i),(29,.d (Df l)),(30,iv l.length),(31,iv j)],[],[(4,(pr.length,1,27)),(7,(((l.take j).map trE).length,1,27))]⟩) 0 (by omega) leQ ?_
  intro j hj
  have hml:((l.take j).map trE).length≤1000000:=by rw[List.length_map,List.length_take];omega
  by_cases hjk:j<l.length
  ·have gj:decide ((j:Int)<l.length)=true:=decide_eq_true (by omega)
   obtain⟨g,hgj⟩:∃g,l[j]?=some g:=⟨_,List.getElem?_eq_getElem hjk⟩
   have hgm:=l2 g (List.mem_of_getElem? hgj)
   have hM:=pU g hgm
   rw[List.all_eq_true.1 l4 g (List.mem_of_getElem? hgj)] at hM
   have hM:Aa Tryz.prog 21 [gnA g] (fun r=>r= .tup [Aq 0 5 (gnE g),iv 0]):=hM
   have k3:=Sd hgm
   have hQ:=J4 [gnE g] (by simp;omega) (by simp)
   rw[show Ae 0 16 true [gnE g].flatten=trE g by simp[trE]] at hQ
   have hs':=E6 trE hgj
   generalize trE g=e' at hQ hs'
   generalize gnE g=e2 at hM hQ
   (repeat'((conv=>whnf);first|refine NBr.pos asQ ?_|refine NBr.no ?_|refine NIdx.tab (fun _=>rfl) hgj ?_|refine NCall.eq hM I1 ?_|refine NCall.eq hQ I1 ?_|refine NApp.one Dk e' ?_|(with_reducible refine NInt.i64 ?_)));(all_goals(conv=>whnf))
   refine⟨j+1,by omega,by omega,?_⟩
   rw[hs']
   exact leQ
  ·have gj:decide ((j:Int)<l.length)=false:=decide_eq_false (by omega)
   obtain rfl:j=l.length:=by omega
   rw[List.take_length]
   by_cases h0:l=[]
   ·subst h0
    rw[if_pos rfl] at hnx
    subst hnx
    (repeat'((conv=>whnf);first|refine NBr.neg asQ ?_|refine NBr.yes ?_|(with_reducible refine NInt.i64 ?_)));(all_goals(conv=>whnf))
    refine⟨i+1,by omega,by omega,?_⟩
    rw[hr']
    exact leQ
   ·have gl:(((l.map trE).length:Int)==0)=false:=by rw[beq_eq_false_iff_ne,List.length_map];intro h;exact h0 (List.eq_nil_of_length_eq_zero (by omega))
    rw[if_neg h0] at hnx
    have hW:=Hu 2 i true (l.map trE) (by omega) (by omega) (by unfold Bn at l3;omega) (by rw[List.length_map];omega)
    have eW:Ae 2 i true (l.map trE).flatten=sbP i l:=rfl
    rw[eW] at hW
    generalize sbP i l=w at hW hnx
    subst hnx
    (repeat'((conv=>whnf);first|refine NBr.neg asQ ?_|refine NBr.no ?_|refine NCall.eq hW I1 ?_|refine NApp.one Dk w ?_|(with_reducible refine NInt.i64 ?_)));(all_goals(conv=>whnf))
    refine⟨i+1,by omega,by omega,?_⟩
    rw[hr']
    exact leQ
 ·have gi:decide ((i:Int)<2)=false:=decide_eq_false (by omega)
  obtain rfl:i=2:=by omega
  have e2:sbI P E 2=Ep P E:=rfl
  rw[e2]
  (repeat'((conv=>whnf);first|refine NBr.neg asQ ?_|refine NCall.eq hS I1 ?_));(all_goals(conv=>whnf))
  all_goals exact NEnd.eq leQ
theorem dJ (b:List UInt8) (y:El) (k:Nat):(elO b y).drop k=(b.drop (y.at'+k)).take (y.stop-(y.at'+k)):=by
 unfold elO
 rw[List.drop_take,List.drop_drop];congr 1;omega
theorem Gl {p:Prop} (h:p:=by first|rfl|(simp only[AV.gives,AV.ren,AV.give,D.un,D.uns,Ah,Ai,List.nil_append,List.append_nil,List.cons_append,Am,Av,Bv,A1,As,Bp,Bx,Cz,By,Ce,Br,Et,Eu,Pn,lN,lM];first|done|rfl)):p:=h
theorem iX (b:List UInt8) (hb:b.length≤800000) (x:El) (h1:x.body≤x.stop) (h2:x.stop≤b.length):Aa Tryz.prog 31 [.d (Ac false b),elA x] (fun r=>r=IH (Zo b x)):=by
 have hL:=Ti b x.body x.stop (by omega) h1 h2
 have hin:=fun y=>Ov (b:=b) (frm:=x.body) h2 (x:=y)
 have hcn:(A3 b x.body x.stop).l.length≤x.stop-x.body:=P6 h2 _ _
 unfold Zo
 generalize A3 b x.body x.stop=R at hL hin hcn⊢
 obtain⟨l,rc,ro⟩:=R
 simp only at hin hcn⊢
 by_cases k1:rc≠0
 ·rw[if_pos k1]
  rw[lrA,if_pos k1] at hL
  have gc:((rc:Int) !=0)=true:=by rw[bne_iff_ne];omega
  refine acQ 90 Tryz.func31 rfl rfl fun _ _ _=> ?_
  (repeat'((conv=>whnf);first|refine NBr.pos asQ ?_|refine NCall.eq hL Gl ?_|refine NFact.go ⟨by decide+kernel,by kernel_rfl⟩ ?_));(all_goals(conv=>whnf))
  all_goals exact NEnd.eq leQ
 rw[if_neg k1]
 rw[lrA,if_neg k1] at hL
 have hd0:sbL b l=Va [] (sbL b (l.drop 0)):=by rw[pZ,List.drop_zero]
 generalize hQ:sbL b l=q at hd0⊢
 refine acQ 90 Tryz.func31 rfl rfl fun _ _ _=> ?_
 (repeat'((conv=>whnf);first|refine NBr.no ?_|refine NCall.eq hL Gl ?_));(all_goals(conv=>whnf))
 refine NLoop.goA [.s 8 9 49] (fun z:Nat×List Gn=>z.1≤l.length∧z.2.length≤z.1∧q=Va z.2 (sbL b (l.drop z.1))) (fun z=>l.length-z.1) (fun z=>⟨[(0,.d (Ac false b)),(3,.ptr 3 0),(5,.ptr 5 0),(8,Ce 8 9 49 dH z.2),(27,.d (gG l)),(28,iv l.length),(29,iv z.1)],[(3,[iv x.c,iv x.n,bv x.k,iv x.at',iv x.body,iv x.stop]),(5,[iv 0,iv 0])],[(8,(z.2.length,9,49))]⟩) (0,[]) ⟨by simp,by simp,hd0⟩ leQ ?_
 rintro⟨i,ms⟩ ⟨hi,hm,he⟩
 simp only at hi hm he
 by_cases hik:i<l.length
 ·have gi:decide ((i:Int)<l.length)=true:=decide_eq_true (by omega)
  obtain⟨y,hg⟩:∃p,l[i]?=some p:=⟨_,List.getElem?_eq_getElem hik⟩
  obtain⟨y1,y2,y3,y4,-,-⟩:=hin y (List.mem_of_getElem? hg)
  have hel:=Sb b y
  have hP:=Je (elO b y) 0 16 (by omega)
  rw[Mq hg] at he
  have hI:trI (elO b y)=if(Ar (elO b y) 0 16).code≠0 then none else trX (elO b y) (Ar (elO b y) 0 16).l:=rfl
  have hpin:=fun u=>D9 (b:=elO b y) (c:=0) (n:=16) (x:=u)
  generalize Ar (elO b y) 0 16=r at hP hI hpin
  obtain⟨ol,oc,oo⟩:=r
  simp only at hI hpin
  have bad:trI (elO b y)=none→q=(none,6,y.at'):=fun h=>by rw[he,sbL,h];rfl
  by_cases k2:oc≠0
  ·rw[lrA,if_pos k2] at hP
   rw[if_pos k2] at hI
   rw[bad hI]
   have gc:((oc:Int) !=0)=true:=by rw[bne_iff_ne];omega
   unfold elO at hP
   (repeat'((conv=>whnf);first|refine NBr.pos asQ ?_|refine NBr.yes ?_|refine NIdx.tab (fun _=>rfl) hg ?_|refine NSl.slice (y.at') (y.stop) ?_|refine NCall.eq hP Gl ?_|refine NFact.go ⟨by decide+kernel,by kernel_rfl⟩ ?_));(all_goals(conv=>whnf))
   all_goals exact NEnd.eq leQ
  rw[lrA,if_neg k2] at hP
  rw[if_neg k2] at hI
  simp only at hP
  by_cases k3:ol.length=1
  ·obtain⟨u,rfl⟩:∃u,ol=[u]:=by
    match ol,k3 with
    |[u],_=>exact⟨u,rfl⟩
   have hI:trI (elO b y)=some ((elO b y).drop u.at'):=hI
   obtain⟨u1,u2,u3⟩:=hpin u (by simp)
   have hel2:=Ut b y
   have g0:([u]:List El)[0]?=some u:=rfl
   have hO:=Uy ((elO b y).drop u.at') (by rw[List.length_drop];omega)
   obtain⟨hc0,hof⟩:=Zb ((elO b y).drop u.at')
   cases hp:Kr ((elO b y).drop u.at') with
   |none=>
    have hq:q=(none,(Za ((elO b y).drop u.at')).1,y.body):=by rw[he,sbL,hI];simp only[hp];rfl
    rw[hq]
    rw[hp] at hO
    rw[dJ] at hO hc0⊢
    generalize Za ((b.drop (y.at'+u.at')).take (y.stop-(y.at'+u.at')))=e at hO hc0⊢
    obtain⟨c,o⟩:=e
    simp only at hc0
    have hO:Aa Tryz.prog 41 [.d (Ac false ((b.drop (y.at'+u.at')).take (y.stop-(y.at'+u.at'))))] (fun r=>r= .tup [gnQ gz,erA c o]):=hO
    have gc:((c:Int) !=0)=true:=by rw[bne_iff_ne];omega
    unfold elO at hP
    (repeat'((conv=>whnf);first|refine NBr.pos asQ ?_|refine NBr.no ?_|refine NIdx.tab (fun _=>rfl) hg ?_|refine NIdx.tab (fun _=>rfl) g0 ?_|refine NSl.slice (y.at') (y.stop) ?_|refine NSl.slice ((y.at'+u.at')) (y.stop) ?_|refine NCall.eq hP Gl ?_|refine NCall.eq hO Gl ?_|(with_reducible refine NInt.i64 ?_)|refine NFact.go ⟨by decide+kernel,by kernel_rfl⟩ ?_));(all_goals(conv=>whnf))
    all_goals exact NEnd.eq leQ
   |some g=>
    rw[iU ms hI hp] at he
    rw[hp] at hO
    rw[dJ] at hO
    have hO:Aa Tryz.prog 41 [.d (Ac false ((b.drop (y.at'+u.at')).take (y.stop-(y.at'+u.at'))))] (fun r=>r= .tup [gnQ g,erA 0 0]):=hO
    unfold elO at hP
    (repeat'((conv=>whnf);first|refine NBr.pos asQ ?_|refine NBr.no ?_|refine NIdx.tab (fun _=>rfl) hg ?_|refine NIdx.tab (fun _=>rfl) g0 ?_|refine NSl.slice (y.at') (y.stop) ?_|refine NSl.slice ((y.at'+u.at')) (y.stop) ?_|refine NCall.eq hP Gl ?_|refine NCall.eq hO Gl ?_|refine NApp.one dH g ?_|(with_reducible refine NInt.i64 ?_)|refine NFact.go ⟨by decide+kernel,by kernel_rfl⟩ ?_));(all_goals(conv=>whnf))
    refine⟨(i+1,ms++[g]),⟨by show i+1≤_;omega,by simp;omega,he⟩,by show l.length-(i+1)<l.length-i;omega,?_⟩
    exact leQ
  ·have hI:trI (elO b y)=none:=by
    rw[hI]
    match ol,k3 with
    |[],_=>rfl
    |[u],h=>exact absurd rfl h
    |_::_::_,_=>rfl
   rw[bad hI]
   have gl:((ol.length:Int) !=1)=true:=by rw[bne_iff_ne];omega
   unfold elO at hP
   (repeat'((conv=>whnf);first|refine NBr.pos asQ ?_|refine NBr.no ?_|refine NIdx.tab (fun _=>rfl) hg ?_|refine NSl.slice (y.at') (y.stop) ?_|refine NCall.eq hP Gl ?_|refine NFact.go ⟨by decide+kernel,by kernel_rfl⟩ ?_));(all_goals(conv=>whnf))
   all_goals exact NEnd.eq leQ
 ·have gi:decide ((i:Int)<l.length)=false:=decide_eq_false (by omega)
  obtain rfl:i=l.length:=by omega
  rw[List.drop_length,sbL] at he
  have he':q=(some ms,0,0):=by rw[he];simp[Va]
  subst he'
  cases ms with
  |nil=>
   (repeat'((conv=>whnf);first|refine NBr.neg asQ ?_|refine NBr.yes ?_|refine NFact.go ⟨by decide+kernel,by kernel_rfl⟩ ?_));(all_goals(conv=>whnf))
   all_goals exact NEnd.eq leQ
  |cons m r=>
   (repeat'((conv=>whnf);first|refine NBr.neg asQ ?_|refine NBr.no ?_));(all_goals(conv=>whnf))
   all_goals exact NEnd.eq leQ
def sbR:Option (List Gn×List Gn)×Nat×Nat→AV
 |(some r,_)=> .tup [.agg [.d (Gw r.1),.d (Gw r.2)],erA 0 0]
 |(none,c,o)=> .tup [.agg [Ao,Ao],erA c o]
theorem He (b:List UInt8) (hb:b.length≤800000):Aa Tryz.prog 15 [.d (Ac false b)] (fun r=>r=sbR (sbO b)):=by
 have hP:=Je b 0 16 (by omega)
 have hin:=fun x=>D9 (b:=b) (c:=0) (n:=16) (x:=x)
 have hcn:=N3 b 0 16
 unfold sbO
 generalize Ar b 0 16=R at hP hin hcn⊢
 obtain⟨l,rc,ro⟩:=R
 simp only at hin hcn⊢
 by_cases k1:rc≠0
 ·rw[if_pos k1]
  rw[lrA,if_pos k1] at hP
  have gc:((rc:Int) !=0)=true:=by rw[bne_iff_ne];omega
  refine acQ 76 Tryz.func15 rfl rfl fun _ _ _=> ?_
  (repeat'((conv=>whnf);first|refine NBr.pos asQ ?_|refine NCall.eq hP Gl ?_|refine NFact.go ⟨by decide+kernel,by kernel_rfl⟩ ?_));(all_goals(conv=>whnf))
  all_goals exact NEnd.eq leQ
 rw[if_neg k1]
 rw[lrA,if_neg k1] at hP
 generalize hQ:sbF b l (-1) [] []=q
 refine acQ 76 Tryz.func15 rfl rfl fun _ _ _=> ?_
 (repeat'((conv=>whnf);first|refine NBr.no ?_|refine NCall.eq hP Gl ?_));(all_goals(conv=>whnf))
 refine NLoop.go (fun z:Nat×Int×List Gn×List Gn=>z.1≤l.length∧ -1≤z.2.1∧q=sbF b (l.drop z.1) z.2.1 z.2.2.1 z.2.2.2) (fun z=>l.length-z.1) (fun z=>⟨[(0,.d (Ac false b)),(2,.ptr 2 0),(3,.ptr 3 0),(6,.ptr 6 0),(7,iv z.2.1),(22,.d (gG l)),(23,iv l.length),(24,iv z.1)],[(2,[Ao,Ao]),(3,[iv 0,iv 0]),(6,[.d (Gw z.2.2.1),.d (Gw z.2.2.2)])],[]⟩) (0,-1,[],[]) ⟨by simp,by simp,by rw[List.drop_zero];exact hQ.symm⟩ leQ ?_
 rintro⟨i,last,P,E⟩ ⟨hi,hlast,he⟩
 simp only at hi hlast he
 clear hQ
 by_cases hik:i<l.length
 ·have gi:decide ((i:Int)<l.length)=true:=decide_eq_true (by omega)
  obtain⟨y,hg⟩:∃p,l[i]?=some p:=⟨_,List.getElem?_eq_getElem hik⟩
  obtain⟨y1,y2,y3⟩:=hin y (List.mem_of_getElem? hg)
  have hI:=Tg y 2 y.n true
  have hL:=iX b hb y (by omega) y3
  rw[Mq hg,sbF] at he
  cases hib:y.isB 2 y.n true
  ·rw[hib] at hI
   rw[if_pos (.inl hib)] at he
   rw[he]
   (repeat'((conv=>whnf);first|refine NBr.pos asQ ?_|refine NBr.yes ?_|refine NIdx.tab (fun _=>rfl) hg ?_|refine NCall.eq hI rfl ?_|refine NFact.go ⟨by decide+kernel,by kernel_rfl⟩ ?_));(all_goals(conv=>whnf))
   all_goals exact NEnd.eq leQ
  rw[hib] at hI
  by_cases hn1:1<y.n
  ·have gn1:decide ((y.n:Int)>1)=true:=decide_eq_true (by omega)
   rw[if_pos (.inr (.inl hn1))] at he
   rw[he]
   (repeat'((conv=>whnf);first|refine NBr.pos asQ ?_|refine NBr.yes ?_|refine NBr.no ?_|refine NIdx.tab (fun _=>rfl) hg ?_|refine NCall.eq hI rfl ?_|refine NFact.go ⟨by decide+kernel,by kernel_rfl⟩ ?_));(all_goals(conv=>whnf))
   all_goals exact NEnd.eq leQ
  have gn1:decide ((y.n:Int)>1)=false:=decide_eq_false (by omega)
  by_cases hnl:(y.n:Int)≤last
  ·have gnl:decide ((y.n:Int)≤last)=true:=decide_eq_true hnl
   rw[if_pos (.inr (.inr hnl))] at he
   rw[he]
   (repeat'((conv=>whnf);first|refine NBr.pos asQ ?_|refine NBr.neg asQ ?_|refine NBr.no ?_|refine NIdx.tab (fun _=>rfl) hg ?_|refine NCall.eq hI rfl ?_|refine NFact.go ⟨by decide+kernel,by kernel_rfl⟩ ?_));(all_goals(conv=>whnf))
   all_goals exact NEnd.eq leQ
  have gnl:decide ((y.n:Int)≤last)=false:=decide_eq_false hnl
  rw[if_neg (by simp only[not_or];exact⟨by simp[hib],hn1,hnl⟩)] at he
  cases hs:Zo b y with
  |mk o p=>
   rw[hs] at hL he
   obtain⟨c,p⟩:=p
   cases o with
   |none=>
    have hc0:c≠0:=by
     rcases Zp b hb y (by omega) y3 with⟨l',-,-,-,h⟩|⟨c',o',h,-,h'⟩
     ·rw[hs] at h;cases h
     ·rw[hs] at h';cases h';exact h
    have gc:((c:Int) !=0)=true:=by rw[bne_iff_ne];omega
    have hL:Aa Tryz.prog 31 [.d (Ac false b),elA y] (fun r=>r= .tup [Ao,erA c p]):=hL
    simp only at he
    rw[he]
    (repeat'((conv=>whnf);first|refine NBr.pos asQ ?_|refine NBr.neg asQ ?_|refine NBr.no ?_|refine NIdx.tab (fun _=>rfl) hg ?_|refine NCall.eq hI rfl ?_|refine NCall.eq hL Gl ?_|refine NFact.go ⟨by decide+kernel,by kernel_rfl⟩ ?_));(all_goals(conv=>whnf))
    all_goals exact NEnd.eq leQ
   |some ns=>
    have hL:Aa Tryz.prog 31 [.d (Ac false b),elA y] (fun r=>r= .tup [.d (Gw ns),erA 0 0]):=hL
    simp only at he
    by_cases hn0:y.n=0
    ·have g0:((y.n:Int)==0)=true:=by rw[beq_iff_eq];omega
     rw[if_pos hn0] at he
     (repeat'((conv=>whnf);first|refine NBr.pos asQ ?_|refine NBr.neg asQ ?_|refine NBr.no ?_|refine NIdx.tab (fun _=>rfl) hg ?_|refine NCall.eq hI rfl ?_|refine NCall.eq hL Gl ?_|(with_reducible refine NInt.i64 ?_)));(all_goals(conv=>whnf))
     refine⟨(i+1,y.n,ns,E),⟨by show i+1≤_;omega,by show(-1:Int)≤y.n;omega,by rw[hn0];exact he⟩,by show l.length-(i+1)<l.length-i;omega,?_⟩
     exact leQ
    ·have g0:((y.n:Int)==0)=false:=by rw[beq_eq_false_iff_ne];omega
     rw[if_neg hn0] at he
     (repeat'((conv=>whnf);first|refine NBr.pos asQ ?_|refine NBr.neg asQ ?_|refine NBr.no ?_|refine NIdx.tab (fun _=>rfl) hg ?_|refine NCall.eq hI rfl ?_|refine NCall.eq hL Gl ?_|(with_reducible refine NInt.i64 ?_)));(all_goals(conv=>whnf))
     refine⟨(i+1,y.n,P,ns),⟨by show i+1≤_;omega,by show(-1:Int)≤y.n;omega,he⟩,by show l.length-(i+1)<l.length-i;omega,?_⟩
     exact leQ
 ·have gi:decide ((i:Int)<l.length)=false:=decide_eq_false (by omega)
  obtain rfl:i=l.length:=by omega
  rw[List.drop_length,sbF] at he
  by_cases hl:last<0
  ·have gl:decide (last<0)=true:=decide_eq_true hl
   rw[if_pos hl] at he
   rw[he]
   (repeat'((conv=>whnf);first|refine NBr.pos asQ ?_|refine NBr.neg asQ ?_));(all_goals(conv=>whnf))
   all_goals exact NEnd.eq leQ
  ·have gl:decide (last<0)=false:=decide_eq_false hl
   rw[if_neg hl] at he
   rw[he]
   (repeat'((conv=>whnf);refine NBr.neg asQ ?_));(all_goals(conv=>whnf))
   all_goals exact NEnd.eq leQ
def Qq (x:Tr):List Gn:=x.ks.map fun k=>Ax (k.kid 0)
def Gx (r:List Gn×List Gn) (x:Tr):List Gn×List Gn:=if x.n=0 then(Qq x,r.2) else(r.1,Qq x)
def Km (t:Tr):List Gn×List Gn:=t.ks.foldl Gx ([],[])
theorem lV {l:List Gn} (h:l.all gnW=true) (hs:∀g∈l,g.mid) (hl:(Bn l).length≤400000000) (i:Nat) (hi:i≤30):One 22 (sbP i l)∧Qq (trD 22 (sbP i l))=l∧(trD 22 (sbP i l)).n=i:=by
 have one:∀g∈l,One 21 (trE g)∧Ax ((trD 21 (trE g)).kid 0)=g∧(trE g).length≤2147483647:=fun g hg=>by
  obtain⟨t,h1,h2,-⟩:=EO (List.all_eq_true.1 h g hg) (hs g hg)
  have h3:=Sd (hs g hg)
  obtain⟨c1,c2⟩:=cZ (d:=20) (c:=0) (n:=16) (by omega) (by omega) h1.1 (by omega)
  have h4:=Al 0 16 true (gnE g) (by omega)
  refine⟨c1,?_,by unfold trE;omega⟩
  have e:trD 21 (trE g)= .mk 0 16 true [] [trD 20 (gnE g)]:=c2
  have k0:∀x:Tr,(Tr.mk 0 16 true [] [x]).kid 0=x:=fun _=>rfl
  rw[e,k0,h1.2];exact h2
 obtain⟨c1,c2⟩:=Mr (d:=21) (c:=2) (n:=i) (l.map trE) (by omega) hi (fun p hp=>by
  obtain⟨g,hg,rfl⟩:=List.mem_map.1 hp
  exact⟨(one g hg).1,(one g hg).2.2⟩) (by unfold Bn at hl;omega)
 have e1:One 22 (Ae 2 i true (l.map trE).flatten):=c1
 have e2:trD 22 (Ae 2 i true (l.map trE).flatten)= .mk 2 i true [] ((l.map trE).map (trD 21)):=c2
 have es:sbP i l=Ae 2 i true (l.map trE).flatten:=rfl
 rw[es,e2]
 refine⟨e1,?_,rfl⟩
 show((l.map trE).map (trD 21)).map (fun k=>Ax (k.kid 0))=l
 rw[List.map_map,List.map_map]
 conv=>rhs;rw[←List.map_id l]
 exact List.map_congr_left fun g hg=>(one g hg).2.1
theorem BQ {P E:List Gn} (h:sbV P E=true) (hs:sbM P E):Km (Cp (sbE P E))=(P,E):=by
 obtain⟨-,hP,hE⟩:=Kj.1 h
 obtain⟨-,-,s1,s2,s3,s4⟩:=hs
 obtain⟨p1,p2,p3⟩:=lV hP s1 s3 0 (by omega)
 obtain⟨q1,q2,q3⟩:=lV hE s2 s4 1 (by omega)
 have lp:=(Mv (i:=0) (l:=P) (by omega)).2
 have lq:=(Mv (i:=1) (l:=E) (by omega)).2
 have hf:=(L1 P E s3 s4).2
 obtain⟨c1,c2⟩:=Mr (d:=22) (c:=0) (n:=16) (Ep P E) (by omega) (by omega) (fun p hp=>by
  unfold Ep at hp
  have:p=sbP 0 P∨p=sbP 1 E:=by
   rw[List.mem_append] at hp
   rcases hp with hp|hp
   ·split at hp
    ·simp at hp
    ·exact .inl (by simpa using hp)
   ·split at hp
    ·simp at hp
    ·exact .inr (by simpa using hp)
  rcases this with rfl|rfl
  ·exact⟨p1,by omega⟩
  ·exact⟨q1,by omega⟩) (by omega)
 unfold sbE
 rw[wH (d:=23) ⟨c1,c2⟩ (by omega)]
 unfold Km
 show((Ep P E).map (trD 22)).foldl Gx ([],[])=_
 unfold Ep
 by_cases p0:P=[]<;>by_cases q0:E=[]
 ·subst p0 q0;rfl
 ·rw[if_pos p0,if_neg q0]
  show Gx ([],[]) (trD 22 (sbP 1 E))=_
  unfold Gx
  rw[q3,if_neg (by omega),q2,p0]
 ·rw[if_neg p0,if_pos q0]
  show Gx ([],[]) (trD 22 (sbP 0 P))=_
  unfold Gx
  rw[p3,if_pos rfl,p2,q0]
 ·rw[if_neg p0,if_neg q0]
  show Gx (Gx ([],[]) (trD 22 (sbP 0 P))) (trD 22 (sbP 1 E))=_
  unfold Gx
  rw[p3,if_pos rfl,p2,q3,if_neg (by omega),q2]
structure trsZ (l:List Gn):Prop where
 z:gnsZ l
 e:(Bn l).length≤90000000
theorem dK:trsZ []:=⟨⟨by simp,(fun g hg=>by cases hg),by simp⟩,by simp[Bn]⟩
theorem FW {x:Tr} (h:x.ok) (hl:x.enc.length≤3004):x.ks.length≤100000∧(∀k∈x.ks,(k.kid 0).gn)∧trsZ (Qq x):=by
 have hk:=Lz h
 have hc:=Tr.encs_two x.ks
 have hp:=x.parts
 have one:∀k∈x.ks,(Ax (k.kid 0)).zz∧(gnE (Ax (k.kid 0))).length≤800*k.enc.length∧(trE (Ax (k.kid 0))).length≤900*k.enc.length∧(k.kid 0).gn:=fun k hm=>by
  obtain⟨k1,k2⟩:=hk k hm
  obtain⟨a1,a2⟩:=Kb k1 0
  have h7:=wS a1 (by omega)
  have h8:=Al 0 16 true (gnE (Ax (k.kid 0))) (by omega)
  have h9:=k.enc_two
  exact⟨lJ a1 (by omega),by omega,by unfold trE;omega,GZ a1 (by omega)⟩
 have m1:=Ql (f:=fun k=>gnE (Ax (k.kid 0))) (C:=800) (l:=x.ks) fun k hm=>(one k hm).2.1
 have m2:=Ql (f:=fun k=>trE (Ax (k.kid 0))) (C:=900) (l:=x.ks) fun k hm=>(one k hm).2.2.1
 have f1:((Qq x).map gnE).flatten.length≤800*(Tr.encs x.ks).length:=by unfold Qq;rw[List.map_map];exact m1
 have f2:(Bn (Qq x)).length≤900*(Tr.encs x.ks).length:=by unfold Bn Qq;rw[List.map_map];exact m2
 refine⟨by omega,fun k hm=>(one k hm).2.2.2,⟨by unfold Qq;rw[List.length_map];omega,fun g hg=> ?_,by omega⟩,by omega⟩
 obtain⟨k,hm,rfl⟩:=List.mem_map.1 hg
 exact(one k hm).1
theorem wZ:∀{ks:List Tr} {r:List Gn×List Gn},(∀x∈ks,trsZ (Qq x))→trsZ r.1→trsZ r.2→trsZ (ks.foldl Gx r).1∧trsZ (ks.foldl Gx r).2
 |[],_,_,h1,h2=>⟨h1,h2⟩
 |x::ks,r,h,h1,h2=>by
  have hx:=h x (by simp)
  rw[List.foldl_cons]
  refine wZ (fun y hy=>h y (by simp[hy])) ?_ ?_
  ·unfold Gx;split
   ·exact hx
   ·exact h1
  ·unfold Gx;split
   ·exact h2
   ·exact hx
theorem BR {b:List UInt8} (hb:b.length≤3000):(Cp b).ks.length≤100000∧(∀x∈(Cp b).ks,x.ks.length≤100000∧(∀k∈x.ks,(k.kid 0).gn)∧trsZ (Qq x))∧trsZ (Km (Cp b)).1∧trsZ (Km (Cp b)).2:=by
 obtain⟨s1,s2⟩:=BG hb
 have hk:=Lz s1
 have hc:=Tr.encs_two (Cp b).ks
 have hp:=(Cp b).parts
 have one:∀x∈(Cp b).ks,x.ks.length≤100000∧(∀k∈x.ks,(k.kid 0).gn)∧trsZ (Qq x):=fun x hx=>by
  obtain⟨k1,k2⟩:=hk x hx
  exact FW k1 (by omega)
 exact⟨by omega,one,wZ (fun x hx=>(one x hx).2.2) dK dK⟩
def Ve (b:List UInt8) (r:List Gn×List Gn):Bool:=sbV r.1 r.2&&(sbE r.1 r.2==b)
theorem dL {b:List UInt8} {c o:Nat} (h:sbO b=(none,c,o)) (hb:b.length≤3000):Ve b (Km (Cp b))=false:=by
 cases hr:Ve b (Km (Cp b)) with
 |false=>rfl
 |true=>
  generalize Km (Cp b)=v at hr
  unfold Ve at hr
  rw[Bool.and_eq_true,beq_iff_eq] at hr
  have:=Qo hr.1 (Po hr.1 (by rw[hr.2];omega))
  rw[hr.2,h] at this;cases this
theorem Xe {b:List UInt8} {P E:List Gn} (hw:sbV P E=true) (he:b=sbE P E) (hb:b.length≤3000):sbM P E∧Km (Cp b)=(P,E)∧Ve b (P,E)=true:=by
 have hm:=Po hw (by rw[←he];omega)
 refine⟨hm,by rw[he];exact BQ hw hm,?_⟩
 unfold Ve
 rw[hw,he,beq_self_eq_true];rfl
theorem B5 {p:Prop} (h:p:=by first|rfl|(simp only[AV.gives,AV.ren,AV.give,D.un,D.uns,Ah,Ai,List.nil_append,List.append_nil,List.cons_append,Am,Av,Bv,A1,As,Bp,Bx,Cz,By,Ce,Br,Tr.cellss_un,Mt,Zj];first|done|rfl)):p:=h
theorem dM (P E:List Gn) (hP:gnsZ P) (hE:gnsZ E):Aa Tryz.prog 14 [sbA P E] (fun r=>r=bv (sbV P E)):=by
 have h1:=Xb P hP
 have h2:=Xb E hE
 have n1:=hP.n
 have n2:=hE.n
 by_cases p0:P=[]
 ·subst p0
  have e0:sbV [] E=Zk E:=by unfold sbV Zk;cases E<;>simp
  rw[e0]
  refine acQ 24 Tryz.func14 rfl rfl fun _ _ _=> ?_
  (repeat'((conv=>whnf);first|refine NBr.yes ?_|refine NCall.eq h2 B5 ?_));(all_goals(conv=>whnf))
  all_goals exact NEnd.eq leQ
 ·have g0:((P.length:Int)==0)=false:=by rw[beq_eq_false_iff_ne];have:=Pp p0;omega
  rw[Zs p0] at h1
  have e0:sbV P E=(P.all gnW&&E.all gnW):=by
   unfold sbV;cases P with
   |nil=>exact absurd rfl p0
   |cons a r=>simp
  rw[e0]
  cases hp:P.all gnW
  ·rw[hp] at h1
   refine acQ 24 Tryz.func14 rfl rfl fun _ _ _=> ?_
   (repeat'((conv=>whnf);first|refine NBr.neg asQ ?_|refine NBr.no ?_|refine NCall.eq h1 B5 ?_));(all_goals(conv=>whnf))
   all_goals exact NEnd.eq leQ
  rw[hp] at h1
  rw[Bool.true_and]
  by_cases q0:E=[]
  ·subst q0
   refine acQ 24 Tryz.func14 rfl rfl fun _ _ _=> ?_
   (repeat'((conv=>whnf);first|refine NBr.neg asQ ?_|refine NBr.yes ?_|refine NCall.eq h1 B5 ?_));(all_goals(conv=>whnf))
   all_goals exact NEnd.eq leQ
  ·have g1:((E.length:Int)==0)=false:=by rw[beq_eq_false_iff_ne];have:=Pp q0;omega
   rw[Zs q0] at h2
   refine acQ 24 Tryz.func14 rfl rfl fun _ _ _=> ?_
   (repeat'((conv=>whnf);first|refine NBr.neg asQ ?_|refine NBr.yes ?_|refine NBr.no ?_|refine NCall.eq h1 B5 ?_|refine NCall.eq h2 B5 ?_));(all_goals(conv=>whnf))
   all_goals exact NEnd.eq leQ
theorem Vf (x:UInt8) (l:List Gn) (hz:trsZ l) (hv:l.all gnW=true):Aa Tryz.prog 24 [cv x.toNat,.d (Df l)] (fun r=>r=Aq 0 5 (Iu x (Bn l))):=by
 have hU:=Fi x (l.map trE) (by rw[List.length_map];have:=hz.z.n;omega) (by have:=hz.e;unfold Bn at this;omega)
 have eU:(l.map trE).flatten=Bn l:=rfl
 rw[eU] at hU
 have hzz:=hz.z
 obtain⟨hl,hs,he⟩:=hzz
 refine acQ 31 Tryz.func24 rfl rfl fun _ _ _=> ?_
 (all_goals(conv=>whnf))
 refine NLoop.goA [.s 5 1 27] (fun i:Nat=>i≤l.length) (fun i=>l.length-i) (fun i=>⟨[(0,cv x.toNat),(1,.d (Df l)),(5,Ce 5 1 27 Dk ((l.take i).map trE)),(6,iv i)],[],[(5,(((l.take i).map trE).length,1,27))]⟩) 0 (by omega) leQ ?_
 rintro i hi
 have hml:((l.take i).map trE).length≤100000:=by rw[List.length_map,List.length_take];omega
 by_cases hik:i<l.length
 ·have gi:decide ((i:Int)<l.length)=true:=decide_eq_true (by omega)
  obtain⟨g,hg⟩:∃p,l[i]?=some p:=⟨_,List.getElem?_eq_getElem hik⟩
  have hM:=wL g (hs g (List.mem_of_getElem? hg))
  rw[List.all_eq_true.1 hv g (List.mem_of_getElem? hg)] at hM
  have hM:Aa Tryz.prog 44 [gnA g] (fun r=>r= .tup [Aq 0 5 (gnE g),iv 0]):=hM
  have hgl:(gnE g).length≤90000000:=by
   have:=Fz (p:=gnE g) (l:=l.map gnE) (List.mem_map_of_mem (List.mem_of_getElem? hg))
   omega
  have hQ:Aa Tryz.prog 45 [cv 48,.d (Ac false (gnE g))] (fun r=>r=Aq 0 5 (trE g)):=Cv 48 (gnE g) (by omega)
  have hs1:=E6 trE hg
  generalize trE g=e' at hQ hs1
  generalize gnE g=e at hM hQ
  (repeat'((conv=>whnf);first|refine NBr.pos asQ ?_|refine NIdx.tab (fun _=>rfl) hg ?_|refine NCall.eq hM B5 ?_|refine NCall.eq hQ B5 ?_|refine NApp.one Dk e' ?_|(with_reducible refine NInt.i64 ?_)));(all_goals(conv=>whnf))
  refine⟨i+1,by omega,by omega,?_⟩
  rw[hs1]
  exact leQ
 ·have gi:decide ((i:Int)<l.length)=false:=decide_eq_false (by omega)
  obtain rfl:i=l.length:=by omega
  rw[List.take_length]
  (repeat'((conv=>whnf);first|refine NBr.neg asQ ?_|refine NCall.eq hU B5 ?_));(all_goals(conv=>whnf))
  all_goals exact NEnd.eq leQ
theorem iY {l:List Gn} (h:l≠[]):decide ((l.length:Int)>0)=true:=decide_eq_true (by have:=Pp h;omega)
theorem dN (P E:List Gn) (hP:trsZ P) (hE:trsZ E):Aa Tryz.prog 11 [sbA P E] (fun r=>r=Qh (sbV P E) (sbE P E)):=by
 have hV:=dM P E hP.z hE.z
 have n1:=hP.z.n
 have n2:=hE.z.n
 have e1:=hP.e
 have e2:=hE.e
 cases hw:sbV P E
 ·rw[hw] at hV
  refine acQ 30 Tryz.func11 rfl rfl fun _ _ _=> ?_
  (repeat'((conv=>whnf);first|refine NBr.yes ?_|refine NCall.eq hV B5 ?_));(all_goals(conv=>whnf))
  all_goals exact NEnd.eq leQ
 rw[hw] at hV
 obtain⟨h0,wP,wE⟩:=Kj.1 hw
 have hpl:=(L1 P E (by omega) (by omega)).2
 have hS:=Fi 48 (Ep P E) (by have:=Zt P E 2;have e:sbI P E 2=Ep P E:=rfl;rw[e] at this;omega) (by omega)
 have eS:Iu 48 (Ep P E).flatten=sbE P E:=rfl
 rw[eS] at hS
 have h1:Aa Tryz.prog 24 [cv 160,.d (Df P)] (fun r=>r=Aq 0 5 (sbP 0 P)):=Vf 160 P hP wP
 have h2:Aa Tryz.prog 24 [cv 161,.d (Df E)] (fun r=>r=Aq 0 5 (sbP 1 E)):=Vf 161 E hE wE
 have hPs:Ep P E=(if P=[] then [] else [sbP 0 P])++(if E=[] then [] else [sbP 1 E]):=rfl
 generalize sbE P E=r at hS⊢
 generalize sbP 0 P=w1 at h1 hPs
 generalize sbP 1 E=w2 at h2 hPs
 by_cases p0:P=[]
 ·have q0:=h0.resolve_left (fun h=>h p0)
  rw[if_pos p0,if_neg q0] at hPs
  rw[hPs] at hS
  subst p0
  have gq:=iY q0
  refine acQ 30 Tryz.func11 rfl rfl fun _ _ _=> ?_
  (repeat'((conv=>whnf);first|refine NBr.pos asQ ?_|refine NBr.no ?_|refine NCall.eq hV B5 ?_|refine NCall.eq h2 B5 ?_|refine NApp.one0 Dk w2 ?_|refine NCall.eq hS B5 ?_));(all_goals(conv=>whnf))
  all_goals exact NEnd.eq leQ
 ·have gp:=iY p0
  by_cases q0:E=[]
  ·rw[if_neg p0,if_pos q0] at hPs
   rw[hPs] at hS
   subst q0
   refine acQ 30 Tryz.func11 rfl rfl fun _ _ _=> ?_
   (repeat'((conv=>whnf);first|refine NBr.pos asQ ?_|refine NBr.no ?_|refine NCall.eq hV B5 ?_|refine NCall.eq h1 B5 ?_|refine NApp.one0 Dk w1 ?_|refine NCall.eq hS B5 ?_));(all_goals(conv=>whnf))
   all_goals exact NEnd.eq leQ
  ·rw[if_neg p0,if_neg q0] at hPs
   rw[hPs] at hS
   have gq:=iY q0
   refine acQ 30 Tryz.func11 rfl rfl fun _ _ _=> ?_
   (repeat'((conv=>whnf);first|refine NBr.pos asQ ?_|refine NBr.no ?_|refine NCall.eq hV B5 ?_|refine NCall.eq h1 B5 ?_|refine NApp.one0 Dk w1 ?_|refine NCall.eq h2 B5 ?_|refine NApp.one Dk w2 ?_|refine NCall.eq hS B5 ?_));(all_goals(conv=>whnf))
   all_goals exact NEnd.eq leQ
theorem iZ {α β:Type} (f:β→α→β) (z:β) {l:List α} {i:Nat} {x:α} (h:l[i]?=some x):(l.take (i+1)).foldl f z=f ((l.take i).foldl f z) x:=by
 obtain⟨hlt,he⟩:=List.getElem?_eq_some_iff.1 h
 rw[List.take_succ_eq_append_getElem hlt,he,List.foldl_append];rfl
theorem xA (t:Tr) (hn:t.ks.length≤100000) (hk:∀x∈t.ks,x.ks.length≤100000∧∀k∈x.ks,(k.kid 0).gn):Aa Tryz.prog 34 [trF t] (fun r=>r= .agg [.d (U7 (Km t).1),.d (U7 (Km t).2)]):=by
 obtain⟨c,n,k,b,ks⟩:=t
 rw[Bm]
 unfold Km
 simp only[Tr.ks] at hn hk⊢
 refine acQ 51 Tryz.func34 rfl rfl fun _ _ _=> ?_
 (all_goals(conv=>whnf))
 refine NLoop.go (fun z:Nat×List Gn×List Gn=>z.1≤ks.length∧(ks.take z.1).foldl Gx ([],[])=z.2) (fun z=>ks.length-z.1) (fun z=>⟨[(1,.ptr 1 0),(2,.ptr 2 0),(3,.ptr 3 0),(4,iv z.1)],[(1,[iv c,iv n,bv k,.d (Ac false b),.d (.sl false ks.length 5 (Tr.cellss false ks))]),(2,[Ao,Ao]),(3,[.d (U7 z.2.1),.d (U7 z.2.2)])],[]⟩) (0,[],[]) ⟨by simp,rfl⟩ leQ ?_
 rintro⟨i,P,E⟩ ⟨hi,he⟩
 simp only at hi he
 by_cases hik:i<ks.length
 ·have gi:decide ((i:Int)<ks.length)=true:=decide_eq_true (by omega)
  obtain⟨x,hg⟩:∃p,ks[i]?=some p:=⟨_,List.getElem?_eq_getElem hik⟩
  obtain⟨x1,x2⟩:=hk x (List.mem_of_getElem? hg)
  have hfs:=iZ Gx ([],[]) hg
  rw[he] at hfs
  obtain⟨c',n',k',b',ks'⟩:=x
  simp only[] at x1 x2
  (repeat'((conv=>whnf);refine NBr.pos asQ ?_));(all_goals(conv=>whnf))
  refine NLoop.goA [.s 5 9 49] (fun j:Nat=>j≤ks'.length) (fun j=>ks'.length-j) (fun j=>⟨[(1,.ptr 1 0),(2,.ptr 2 0),(3,.ptr 3 0),(4,iv i),(5,Ce 5 9 49 iP ((ks'.take j).map fun k=>Ax (k.kid 0))),(6,iv j)],[(1,[iv c,iv n,bv k,.d (Ac false b),.d (.sl false ks.length 5 (Tr.cellss false ks))]),(2,[Ao,Ao]),(3,[.d (U7 P),.d (U7 E)])],[(5,(((ks'.take j).map fun k=>Ax (k.kid 0)).length,9,49))]⟩) 0 (by omega) leQ ?_
  intro j hj
  have hml:((ks'.take j).map fun k=>Ax (k.kid 0)).length≤100000:=by rw[List.length_map,List.length_take];omega
  by_cases hjk:j<ks'.length
  ·have gj:decide ((j:Int)<ks'.length)=true:=decide_eq_true (by omega)
   obtain⟨y,hgj⟩:∃p,ks'[j]?=some p:=⟨_,List.getElem?_eq_getElem hjk⟩
   have hR:=wM (y.kid 0) (x2 y (List.mem_of_getElem? hgj))
   have q0:=G5 y 0 (by omega)
   have hs:=E6 (fun k=>Ax (k.kid 0)) hgj
   generalize Ax (y.kid 0)=a at hR hs
   generalize y.kid 0=z at q0 hR
   obtain⟨c2,n2,k2,b2,ks2⟩:=y
   obtain⟨c3,n3,k3,b3,ks3⟩:=z
   rw[Bm] at q0 hR
   rw[Bm] at q0
   (repeat'((conv=>whnf);first|refine NBr.pos asQ ?_|(refine NIdx.trs hg ?_)|(refine NIdx.trs hgj ?_)|refine NCall.eq q0 B5 ?_|refine NCall.eq hR B5 ?_|refine NApp.one iP a ?_|(with_reducible refine NInt.i64 ?_)));(all_goals(conv=>whnf))
   refine⟨j+1,by omega,by omega,?_⟩
   rw[hs]
   exact leQ
  ·have gj:decide ((j:Int)<ks'.length)=false:=decide_eq_false (by omega)
   obtain rfl:j=ks'.length:=by omega
   rw[List.take_length]
   have hrd:Qq (.mk c' n' k' b' ks')=ks'.map fun k=>Ax (k.kid 0):=rfl
   by_cases hn0:n'=0
   ·have g0:((n':Int)==0)=true:=by rw[beq_iff_eq];omega
    unfold Gx at hfs
    rw[if_pos (show(Tr.mk c' n' k' b' ks').n=0 from hn0),hrd] at hfs
    (repeat'((conv=>whnf);first|refine NBr.pos asQ ?_|refine NBr.neg asQ ?_|(refine NIdx.trs hg ?_)|(with_reducible refine NInt.i64 ?_)));(all_goals(conv=>whnf))
    refine⟨(i+1,_,E),⟨by show i+1≤_;omega,hfs⟩,by show ks.length-(i+1)<ks.length-i;omega,?_⟩
    exact leQ
   ·have g0:((n':Int)==0)=false:=by rw[beq_eq_false_iff_ne];omega
    unfold Gx at hfs
    rw[if_neg (show¬(Tr.mk c' n' k' b' ks').n=0 from hn0),hrd] at hfs
    (repeat'((conv=>whnf);first|refine NBr.neg asQ ?_|(refine NIdx.trs hg ?_)|(with_reducible refine NInt.i64 ?_)));(all_goals(conv=>whnf))
    refine⟨(i+1,P,_),⟨by show i+1≤_;omega,hfs⟩,by show ks.length-(i+1)<ks.length-i;omega,?_⟩
    exact leQ
 ·have gi:decide ((i:Int)<ks.length)=false:=decide_eq_false (by omega)
  obtain rfl:i=ks.length:=by omega
  rw[List.take_length] at he
  rw[he]
  (repeat'((conv=>whnf);refine NBr.neg asQ ?_));(all_goals(conv=>whnf))
  all_goals exact NEnd.eq leQ
theorem dO (b:List UInt8) (hb:b.length≤3000):Aa Tryz.prog 17 [.d (Ac false b)] (fun r=>r=if Ve b (Km (Cp b))=true then .tup [.agg [.d (U7 (Km (Cp b)).1),.d (U7 (Km (Cp b)).2)],bv true] else .tup [.agg [Ao,Ao],bv false]):=by
 obtain⟨g1,g2,g3,g4⟩:=BR hb
 have hD:=uO b (by omega)
 have hR:=xA (Cp b) g1 fun x hx=>⟨(g2 x hx).1,(g2 x hx).2.1⟩
 have hM:=dN _ _ g3 g4
 have hle:=(lR (P:=(Km (Cp b)).1) (E:=(Km (Cp b)).2) (by have:=g3.e;omega) (by have:=g4.e;omega)).2
 have e3:=g3.e
 have e4:=g4.e
 have hB:=Co false false (sbE (Km (Cp b)).1 (Km (Cp b)).2) b (by omega) (by omega)
 unfold Ve
 clear hle e3 e4 g3 g4
 generalize Km (Cp b)=v at hR hM hB⊢
 obtain⟨P,E⟩:=v
 simp only at hR hM hB⊢
 generalize sbE P E=X at hM hB⊢
 generalize sbV P E=W at hM⊢
 clear g1 g2
 generalize Cp b=t at hD hR
 generalize ((Cj 60 b).code==0)=q at hD
 obtain⟨c,n,k,b',ks⟩:=t
 rw[Bm] at hR
 rw[Yy rfl] at hD
 cases W with
 |false=>
  have hM:Aa Tryz.prog 11 [sbA P E] (fun r=>r= .tup [Ao,iv 8]):=hM
  rw[Bool.false_and]
  refine acQ 31 Tryz.func17 rfl rfl fun _ _ _=> ?_
  (repeat'((conv=>whnf);first|refine NBr.yes ?_|refine NCall.eq hD B5 ?_|refine NCall.eq hR B5 ?_|refine NCall.eq hM B5 ?_));(all_goals(conv=>whnf))
  all_goals exact NEnd.eq leQ
 |true=>
  have hM:Aa Tryz.prog 11 [sbA P E] (fun r=>r= .tup [Aq 0 5 X,iv 0]):=hM
  rw[Bool.true_and]
  cases hq:(X==b)
  all_goals
   rw[hq] at hB
   clear hq
   refine acQ 31 Tryz.func17 rfl rfl fun _ _ _=> ?_
   (repeat'((conv=>whnf);first|refine NBr.yes ?_|refine NBr.no ?_|refine NCall.eq hD B5 ?_|refine NCall.eq hR B5 ?_|refine NCall.eq hM B5 ?_|refine NCall.eq hB B5 ?_));(all_goals(conv=>whnf))
   all_goals exact NEnd.eq leQ
theorem H3 (P E P' E':List Gn) (h1:P.length≤1000000∧∀p∈P,p.eqs) (h2:E.length≤1000000∧∀p∈E,p.eqs) (h3:P'.length≤1000000∧∀p∈P',p.eqs) (h4:E'.length≤1000000∧∀p∈E',p.eqs):Aa Tryz.prog 16 [sbA P E,sbA P' E'] (fun r=>r=bv (decide (P=P'∧E=E'))):=by
 have a:=Pl P P' h1 h3
 have c:=Pl E E' h2 h4
 rw[show decide (P=P'∧E=E')=(decide (P=P')&&decide (E=E')) by rw[Bool.eq_iff_iff];simp]
 cases hp:decide (P=P')
 all_goals
  rw[hp] at a
  refine acQ 17 Tryz.func16 rfl rfl fun _ _ _=> ?_
  (repeat'((conv=>whnf);first|refine NBr.yes ?_|refine NBr.no ?_|refine NCall.eq a B5 ?_|refine NCall.eq c B5 ?_));(all_goals(conv=>whnf))
  all_goals exact NEnd.eq leQ
def Xf (l:List Gn):Prop:=l.length≤big∧∀g∈l,g.ok
theorem sbM.qq {P E:List Gn} (h:sbM P E):(P.length≤1000000∧∀p∈P,p.eqs)∧(E.length≤1000000∧∀p∈E,p.eqs):=⟨⟨h.p,fun g hg=>(h.m g hg).s.z.q⟩,⟨h.q,fun g hg=>(h.n g hg).s.z.q⟩⟩
theorem xB {l:List Gn} (h:Ci l=true):trsZ l:=by
 obtain⟨h1,h2,h3⟩:=iW h
 obtain⟨-,-,k3⟩:=wT h
 exact⟨⟨by omega,fun g hg=>(h2 g hg).s.z,by omega⟩,by omega⟩
theorem Bk {p:Prop} (h:p:=by first|rfl|(simp only[AV.gives,AV.ren,AV.give,D.un,D.uns,Ah,Ai,List.nil_append,List.append_nil,List.cons_append,Am,Av,Bv,A1,As,Bp,Bx,Cz,By,Ce,Br,Pn,Mt];first|done|rfl)):p:=h
end Go.Proofs.YtgmbmfoabndmoaaGreatDoor
