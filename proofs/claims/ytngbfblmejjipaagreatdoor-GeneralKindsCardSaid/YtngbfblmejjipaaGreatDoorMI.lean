/- MI: the texts OidP Pre Str Oid Oid2 OidE OidL OidR OidS Tree Tree2 Tree3 Tree4 T T2 T3 Ref10 Pl, one behind the other. No condition but what each lemma says. -/
import Derived.Lib.ItoaNum
import Derived.Lib.SplitLaws
import Derived.Lib.ParseIntBCases
import Derived.Test.YtngbfblmejjipaaGreatDoorMC
import Derived.Test.YtngbfblmejjipaaGreatDoorME
import Derived.Test.YtngbfblmejjipaaGreatDoorMD
import Derived.Lib.ItoaMem
set_option maxRecDepth 100000
set_option maxHeartbeats 16000000
namespace Go.Proofs.YtngbfblmejjipaaGreatDoor
open Go
def Ef:List UInt8→List (List UInt8)
 |[]=>[[]]
 |c::r=>if c=46 then []::Ef r else match Ef r with
  |p::ps=>(c::p)::ps
  |[]=>[[c]]
theorem Hy:∀s,∃p ps,Ef s=p::ps
 |[]=>⟨_,_,rfl⟩
 |c::r=>by
  obtain⟨p,ps,h⟩:=Hy r
  unfold Ef
  by_cases hc:c=46
  ·rw[if_pos hc];exact⟨_,_,rfl⟩
  ·rw[if_neg hc,h];exact⟨_,_,rfl⟩
open Lib in
theorem Pr {c:UInt8} {r:List UInt8} (hc:c≠46):index (c::r) [46]=if index r [46]== -1 then-1 else index r [46]+1:=by
 rw[index];simp[List.isPrefixOf,Ne.symm hc]
open Lib in
theorem Y4 {c:UInt8} (hc:c≠46):∀(k:Nat) (r:List UInt8) {p ps},splitK [46] 0 k r=p::ps→splitK [46] 0 k (c::r)=(c::p)::ps
 |0,r,p,ps,h=>by rw[splitK] at h⊢;cases h;rfl
 |k+1,r,p,ps,h=>by
  have hx:=Pr (r:=r) hc
  have hg:=index_ge r [46]
  rw[splitK] at h⊢
  by_cases hm:index r [46]= -1
  ·rw[if_pos (beq_iff_eq.2 hm)] at h
   rw[if_pos (beq_iff_eq.2 hm)] at hx
   rw[if_pos (beq_iff_eq.2 hx)]
   cases h;rfl
  ·rw[if_neg (fun e=>hm (beq_iff_eq.1 e))] at h hx
   rw[if_neg (by rw[beq_iff_eq];omega),hx]
   cases h
   obtain⟨j,hj⟩:∃j:Nat,index r [46]=j:=⟨(index r [46]).toNat,by omega⟩
   rw[hj]
   rw[show((j:Int)+1).toNat=j+1 by omega,show(j:Int).toNat=j by omega]
   simp
open Lib in
theorem Mg:∀s:List UInt8,splitK [46] 0 (s.count 46) s=Ef s
 |[]=>rfl
 |c::r=>by
  obtain⟨p,ps,h⟩:=Hy r
  have ih:=Mg r
  rw[Ef]
  by_cases hc:c=46
  ·subst hc
   rw[if_pos rfl,List.count_cons_self,splitK]
   have hx:index (46::r) [46]=0:=by rw[index];simp[List.isPrefixOf]
   rw[if_neg (by rw[hx];decide),hx,←ih]
   simp
  ·rw[if_neg hc,h,List.count_cons_of_ne (fun e=>hc e),Y4 hc _ _ (ih.trans h)]
open Lib in
theorem Kw (s:List UInt8):splitB ⟨#[46]⟩ 0 (countB ⟨⟨s⟩⟩ ⟨#[46]⟩) ⟨⟨s⟩⟩=(Ef s).map fun p=>⟨⟨p⟩⟩:=by
 have h1:=splitB_data ⟨#[46]⟩ 0 (countB ⟨⟨s⟩⟩ ⟨#[46]⟩) ⟨⟨s⟩⟩
 have h2:countB ⟨⟨s⟩⟩ ⟨#[46]⟩=s.count 46:=count_one 46 s
 rw[h2] at h1⊢
 rw[show splitK ((⟨#[46]⟩:ByteArray).data.toList) 0 (s.count 46) ((⟨⟨s⟩⟩:ByteArray).data.toList)=Ef s from Mg s] at h1
 rw[←h1,List.map_map]
 conv=>lhs;rw[←List.map_id (splitB ⟨#[46]⟩ 0 (s.count 46) ⟨⟨s⟩⟩)]
 exact List.map_congr_left fun x _=>rfl
def K6 (l:List UInt8):Option Nat:=match Lib.parseUintB 32 l with
 | .ok u=>if Lib.decDigits u=l then some u else none
 |_=>none
theorem Y5 {l:List UInt8} {n:Nat} (h:K6 l=some n):n≤4294967295∧Lib.decDigits n=l:=by
 unfold K6 at h
 split at h
 ·rename_i u hu
  split at h
  ·rename_i he
   cases h
   exact⟨by have:=Lib.parseUintB_le hu;omega,he⟩
  ·cases h
 ·cases h
def Cb:List Nat→Bool
 |x::y::_=>decide (x≤2)&&(if x<2 then decide (y<40) else decide (y≤4294967215))
 |_=>false
def Di (ps:List (List UInt8)):Option (List Nat):=match ps with
 |[]=>some []
 |p::r=>match K6 p,Di r with
  |some n,some l=>some (n::l)
  |_,_=>none
def De (s:List UInt8):Option (List Nat):=match Di (Ef s) with
 |some a=>if Cb a then some a else none
 |none=>none
def Cl:List Nat→List UInt8
 |[]=>[]
 |[n]=>Lib.decDigits n
 |n::m::r=>Lib.decDigits n++46::Cl (m::r)
theorem Ei {a:List Nat} (h:Cb a=true):∃x y r,a=x::y::r∧x≤2∧(x<2→y<40)∧y≤4294967215:=by
 match a,h with
 |x::y::r,h=>
  rw[Cb,Bool.and_eq_true,decide_eq_true_eq] at h
  refine⟨x,y,r,rfl,h.1,fun hx=> ?_,?_⟩
  ·have:=h.2;rw[if_pos hx,decide_eq_true_eq] at this;exact this
  ·have:=h.2
   by_cases hx:x<2
   ·rw[if_pos hx,decide_eq_true_eq] at this;omega
   ·rw[if_neg hx,decide_eq_true_eq] at this;exact this
theorem Mh:∀{ps:List (List UInt8)} {a:List Nat},Di ps=some a→ps=a.map Lib.decDigits∧∀n∈a,n≤4294967295
 |[],a,h=>by rw[Di] at h;cases h;simp
 |p::r,a,h=>by
  rw[Di] at h
  split at h
  ·rename_i n l h1 h2
   cases h
   obtain⟨k1,k2⟩:=Y5 h1
   obtain⟨k3,k4⟩:=Mh h2
   refine⟨by rw[List.map_cons,k2,←k3],fun m hm=> ?_⟩
   rcases List.mem_cons.1 hm with rfl|hm
   ·exact k1
   ·exact k4 m hm
  ·cases h
theorem Y6:∀(s:List UInt8) (a:List Nat),Ef s=a.map Lib.decDigits→Cl a=s:=by
 intro s
 have gen:∀(s:List UInt8) (p:List UInt8) (ps:List (List UInt8)),Ef s=p::ps→s=p++(ps.flatMap fun q=>46::q):=by
  intro s
  induction s with
  |nil=>intro p ps h;rw[Ef] at h;cases h;rfl
  |cons c r ih=>
   intro p ps h
   obtain⟨q,qs,h'⟩:=Hy r
   have h2:=ih q qs h'
   rw[Ef] at h
   by_cases hc:c=46
   ·rw[if_pos hc,h'] at h
    cases h
    rw[List.nil_append,List.flatMap_cons,List.cons_append,←h2,hc]
   ·rw[if_neg hc,h'] at h
    cases h
    rw[List.cons_append,←h2]
 intro a h
 have tl:∀(m:Nat) (r:List Nat),Cl (m::r)=Lib.decDigits m++((r.map Lib.decDigits).flatMap fun q=>46::q):=by
  intro m r
  induction r generalizing m with
  |nil=>rw[Cl];simp
  |cons k r ih=>rw[Cl,ih k];simp
 match a,h with
 |[],h=>obtain⟨q,qs,h'⟩:=Hy s;rw[h'] at h;cases h
 |m::r,h=>rw[tl,←gen s _ _ h]
theorem Gf {s:List UInt8} {a:List Nat} (h:De s=some a):Cb a=true∧(∀n∈a,n≤4294967295)∧Cl a=s:=by
 unfold De at h
 split at h
 ·rename_i a' h1
  split at h
  ·rename_i h2
   cases h
   obtain⟨k1,k2⟩:=Mh h1
   exact⟨h2,k2,Y6 s a k1⟩
  ·cases h
 ·cases h
def Bn (last:Bool) (n:Nat):List UInt8:=
 if h:n<128 then [UInt8.ofNat (n%128+if last then 0 else 128)] else Bn false (n/128)++[UInt8.ofNat (n%128+if last then 0 else 128)]
termination_by n
decreasing_by omega
theorem B8 (l:Bool) {n:Nat} (h:n<128):Bn l n=[UInt8.ofNat (n%128+if l then 0 else 128)]:=by rw[Bn,dif_pos h]
theorem Ev (l:Bool) {n:Nat} (h:¬n<128):Bn l n=Bn false (n/128)++[UInt8.ofNat (n%128+if l then 0 else 128)]:=by rw[Bn,dif_neg h]
def Uv:List Nat→List UInt8
 |x::y::r=>Bn true (40*x+y)++r.flatMap (Bn true)
 |_=>[]
def A6:Bool→Nat→List UInt8→Option (List Nat)
 |b,_,[]=>if b then none else some []
 |b,n,x::r=>if b=false∧x=128 then none else if n*128+x.toNat%128>4294967295 then none else if x.toNat<128 then(match A6 false 0 r with
  |some l=>some ((n*128+x.toNat%128)::l)
  |none=>none) else A6 true (n*128+x.toNat%128) r
def Cw:List Nat→List Nat
 |[]=>[]
 |n::r=>min (n/40) 2::(n-40*min (n/40) 2)::r
theorem Ps {l:List Nat} (hl:l≠[]) (hb:∀n∈l,n≤4294967295):Cb (Cw l)=true∧(∀n∈Cw l,n≤4294967295)∧Uv (Cw l)=l.flatMap (Bn true):=by
 match l,hl with
 |n::r,_=>
  have hn:=hb n (by simp)
  refine⟨?_,?_,?_⟩
  ·rw[Cw,Cb,Bool.and_eq_true,decide_eq_true_eq]
   refine⟨by omega,?_⟩
   split<;>rw[decide_eq_true_eq]<;>omega
  ·intro m hm
   rw[Cw,List.mem_cons,List.mem_cons] at hm
   rcases hm with rfl|rfl|hm
   ·omega
   ·omega
   ·exact hb m (by simp[hm])
  ·rw[Cw,Uv,show 40*min (n/40) 2+(n-40*min (n/40) 2)=n by omega];rfl
def Rz (c:List UInt8):Option (List Nat):=match A6 false 0 c with
 |some (n::r)=>some (Cw (n::r))
 |_=>none
theorem iN (l:Bool) (n:Nat):Bn l n≠[]:=by
 rw[Bn];split<;>simp
theorem nI {n:Nat}:(UInt8.ofNat (n%128+if true=true then 0 else 128)).toNat=n%128:=by
 rw[if_pos rfl,UInt8.toNat_ofNat'];omega
theorem lX {n:Nat}:(UInt8.ofNat (n%128+if false=true then 0 else 128)).toNat=n%128+128:=by
 rw[if_neg (by simp),UInt8.toNat_ofNat'];omega
theorem Uw:∀(n:Nat) (r:List UInt8),1≤n→n≤4294967295→A6 false 0 (Bn false n++r)=A6 true n r:=by
 intro n
 induction n using Nat.strongRecOn with
 |_ n ih=>
  intro r h1 h2
  have hx:=lX (n:=n)
  by_cases h:n<128
  ·rw[B8 _ h]
   generalize UInt8.ofNat (n%128+if false=true then 0 else 128)=x at hx
   rw[List.singleton_append,A6,if_neg (by rintro⟨-,rfl⟩;simp at hx;omega),if_neg (by omega),if_neg (by omega)]
   rw[show 0*128+x.toNat%128=n by omega]
  ·rw[Ev _ h,List.append_assoc,List.singleton_append,ih (n/128) (by omega) _ (by omega) (by omega)]
   generalize UInt8.ofNat (n%128+if false=true then 0 else 128)=x at hx
   rw[A6,if_neg (by simp),if_neg (by omega),if_neg (by omega)]
   rw[show n/128*128+x.toNat%128=n by omega]
theorem Y7 (n:Nat) (r:List UInt8) (h2:n≤4294967295):A6 false 0 (Bn true n++r)=(A6 false 0 r).map (n:: ·):=by
 have hx:=nI (n:=n)
 by_cases h:n<128
 ·rw[B8 _ h]
  generalize UInt8.ofNat (n%128+if true=true then 0 else 128)=x at hx
  rw[List.singleton_append,A6,if_neg (by rintro⟨-,rfl⟩;simp at hx;omega),if_neg (by omega),if_pos (by omega)]
  rw[show 0*128+x.toNat%128=n by omega]
  cases A6 false 0 r<;>rfl
 ·rw[Ev _ h,List.append_assoc,List.singleton_append,Uw _ _ (by omega) (by omega)]
  generalize UInt8.ofNat (n%128+if true=true then 0 else 128)=x at hx
  rw[A6,if_neg (by simp),if_neg (by omega),if_pos (by omega)]
  rw[show n/128*128+x.toNat%128=n by omega]
  cases A6 false 0 r<;>rfl
theorem Oe:∀(l:List Nat),(∀n∈l,n≤4294967295)→A6 false 0 (l.flatMap (Bn true))=some l
 |[],_=>rfl
 |n::r,h=>by
  rw[List.flatMap_cons,Y7 n _ (h n (by simp)),Oe r (fun m hm=>h m (by simp[hm]))];rfl
theorem Io:∀(c:List UInt8) (b:Bool) (n:Nat) (l:List Nat),n≤4294967295→(b=true→1≤n)→(b=false→n=0)→A6 b n c=some l→(if b then Bn false n else [])++c=l.flatMap (Bn true)∧∀m∈l,m≤4294967295
 |[],b,n,l,_,_,_,h=>by
  cases b
  ·rw[A6] at h;cases h;simp
  ·rw[A6] at h;cases h
 |x::r,b,n,l,hn,hb,hb0,h=>by
  rw[A6] at h
  have hxl:=x.toNat_lt
  by_cases h1:b=false∧x=128
  ·rw[if_pos h1] at h;cases h
  rw[if_neg h1] at h
  by_cases h2:n*128+x.toNat%128>4294967295
  ·rw[if_pos h2] at h;cases h
  rw[if_neg h2] at h
  have hx0:b=false→x.toNat≠128:=fun e e'=>h1 ⟨e,by
   apply UInt8.toNat_inj.1;simpa using e'⟩
  have e1:∀last:Bool,(if last then x.toNat<128 else 128≤x.toNat)→Bn last (n*128+x.toNat%128)=(if b then Bn false n else [])++[x]:=by
   intro last hlast
   have hx:UInt8.ofNat ((n*128+x.toNat%128)%128+if last=true then 0 else 128)=x:=by
    apply UInt8.toNat_inj.1
    rw[UInt8.toNat_ofNat']
    cases last<;>simp at hlast⊢ <;>omega
   cases b
   ·have:=hb0 rfl
    subst this
    rw[B8 _ (by omega),hx];rfl
   ·have:=hb rfl
    rw[Ev _ (by omega),hx,show(n*128+x.toNat%128)/128=n by omega];rfl
  by_cases h3:x.toNat<128
  ·rw[if_pos h3] at h
   split at h
   ·rename_i l' hl'
    cases h
    obtain⟨k1,k2⟩:=Io r false 0 l' (by omega) (by simp) (fun _=>rfl) hl'
    rw[List.flatMap_cons,←k1,e1 true (by simpa using h3)]
    refine⟨by simp,fun m hm=> ?_⟩
    rcases List.mem_cons.1 hm with rfl|hm
    ·omega
    ·exact k2 m hm
   ·cases h
  ·rw[if_neg h3] at h
   have hm:1≤n*128+x.toNat%128:=by
    cases b
    ·have:=hx0 rfl;omega
    ·have:=hb rfl;omega
   obtain⟨k1,k2⟩:=Io r true _ l (by omega) (fun _=>hm) (by simp) h
   refine⟨?_,k2⟩
   rw[←k1,if_pos rfl,e1 false (by simpa using h3)]
   simp
theorem Y8 {x y:Nat} {r:List Nat} (h:Cb (x::y::r)=true):Cw ((40*x+y)::r)=x::y::r:=by
 obtain⟨x',y',r',e,h1,h2,h3⟩:=Ei h
 cases e
 rw[Cw]
 have:min ((40*x+y)/40) 2=x:=by
  by_cases hx:x<2
  ·have:=h2 hx;omega
  ·omega
 rw[this,show 40*x+y-40*x=y by omega]
theorem dL {a:List Nat} (h:Cb a=true) (hb:∀n∈a,n≤4294967295):Rz (Uv a)=some a:=by
 obtain⟨x,y,r,rfl,h1,h2,h3⟩:=Ei h
 have:=Oe ((40*x+y)::r) (fun m hm=>by
  rcases List.mem_cons.1 hm with rfl|hm
  ·by_cases hx:x<2
   ·have:=h2 hx;omega
   ·omega
  ·exact hb m (by simp[hm]))
 rw[List.flatMap_cons] at this
 rw[Uv,Rz,this]
 simp only[Y8 h]
def Bj (s:List UInt8):List UInt8:=match De s with
 |some a=>Uv a
 |none=>[]
def Y9 (s:List UInt8):Nat:=match De s with
 |some _=>0
 |none=>8
def odT (c:List UInt8):List UInt8:=match Rz c with
 |some a=>Cl a
 |none=>[]
def odC (c:List UInt8):Nat:=match Rz c with
 |some _=>0
 |none=>6
def Ff (s:List UInt8):Bool:=(De s).isSome
theorem J7 (s:List UInt8):Ff s=true↔Y9 s=0:=by
 unfold Ff Y9;cases De s<;>simp
theorem Ux {s:List UInt8} (h:Ff s=true):odT (Bj s)=s∧odC (Bj s)=0:=by
 obtain⟨a,ha⟩:=Option.isSome_iff_exists.1 h
 obtain⟨k1,k2,k3⟩:=Gf ha
 have:=dL k1 k2
 unfold odT odC Bj
 rw[ha]
 simp only[this]
 exact⟨k3,trivial⟩
end Go.Proofs.YtngbfblmejjipaaGreatDoor
namespace Go.Proofs.YtngbfblmejjipaaGreatDoor
open Go.RowKit
def Mi:Nat→Code→List Code
 |n+1,.seq x y=>x::Mi n y
 |_,_=>[]
def Kx:Nat→Code→Code
 |n+1,.seq _ y=>Kx n y
 |_,c=>c
def dM:List Code→Code→Code
 |[],c=>c
 |x::r,c=> .seq x (dM r c)
theorem R0:∀(n:Nat) (c:Code),dM (Mi n c) (Kx n c)=c
 |0,c=>by cases c<;>rfl
 |n+1,c=>by
  cases c with
  |seq x y=>show Code.seq x (dM (Mi n y) (Kx n y))=_;rw[R0 n y]
  |_=>rfl
def iO (P:Program) (C:Cx):List Code→(AS→Prop)→AS→Prop
 |[],K,σ=>K σ
 |x::r,K,σ=>A9 P C x (nx (iO P C r K) (fun _ _=>False)) σ
theorem Wj {P:Program} {C:Cx} {B:Code} {Q:Exit→Act→World→Prop} {K:AS→Prop}:∀{xs:List Code} {σ:AS} {a:Act} {w:World},iO P C xs K σ→G C σ a w→(∀σ' a' w',K σ'→G C σ' a' w'→B.wp P Q a' w')→(dM xs B).wp P Q a w
 |[],σ,a,w,h,hG,k=>k σ a w h hG
 |x::r,σ,a,w,h,hG,k=>wp_seq (wp_mono (h a w hG) fun e a' w' ⟨σ',h1,h2⟩=>by
   cases e with
   |normal=>exact Wj (xs:=r) h1 h2 k
   |_=>exact h1.elim)
noncomputable def Wk (P:Program) (C:Cx) (T:Tab):List Code→KS→KS
 |[],K=>K
 |x::r,K=>Gb P C T x (Wk P C T r K) (fun _ _ _ _=>False) (fun _ _ _=>False)
theorem R1 {P:Program} {C:Cx} {T:Tab} (hT:TabOk P T) (hm:P.follows .mixedOrders=true):∀{xs:List Code} {K:KS} {tm:TM} {bx:BX} {tk:TK},Wk P C T xs K tm bx tk→iO P C xs (fun σ=>K σ.tm σ.bx σ.tk) ⟨tm,bx,tk⟩
 |[],K,tm,bx,tk,h=>h
 |x::r,K,tm,bx,tk,h=>Cg (Lg hT hm x _ _ _ _ _ _ h) fun e σ he=>by
   cases e with
   |normal=>exact R1 (xs:=r) hT hm he
   |exit id=>exact False.elim he
   |ret=>exact False.elim he
   |goto l=>exact he.elim
   |panic c=>exact he.elim
   |_=>first|exact he.elim|exact he
theorem GG.act {C:Cx} {bm:BM} {gt:Nat→Value} {fp:Nat→Nat→Prop} {σ σ':AS} {a a':Act} {w:World} (h:GG C bm gt fp σ a w) (hsz:a'.tmps.size=C.N) (hdf:a'.defers=[]) (hb:σ'.bx=σ.bx) (hk:σ'.tk=σ.tk)
 (ht:∀t u,lk t σ'.tm=some u→∃v,C.val a' t=some v∧RA C.W.heap.size fp w bm gt u v):GG C bm gt fp σ' a' w:=by
 obtain⟨tm,bx,tk⟩:=σ'
 simp only at hb hk
 subst hb hk
 exact{sz:=hsz,nN:=h.nN,gd:=h.gd,za:=h.za,zb:=h.zb,zf:=h.zf,ztk:=h.ztk,df:=hdf,tm:=ht,bx:=h.bx,bxi:=h.bxi,tk:=h.tk,tki:=h.tki,tkb:=h.tkb,fpb:=h.fpb,fp0:=h.fp0,fpB:=h.fpB,bel:=h.bel}
def Mj (all:List AV):List Nat→TM
 |[]=>[]
 |i::r=>match all[i]? with
  |some u=>(i,u)::Mj all r
  |none=>Mj all r
def dN (vs:List Value) (tm:TM):List Nat→Prop
 |[]=>True
 |i::r=>(∃v,vs[i]?=some v∧lk i tm=some (.d (.v v)))∧dN vs tm r
theorem Mk {all:List AV} {t:Nat} {u:AV}:∀{l:List Nat},lk t (Mj all l)=some u→t∈l∧all[t]?=some u
 |[],h=>by cases h
 |i::r,h=>by
  unfold Mj at h
  cases hi:all[i]? with
  |none=>
   rw[hi] at h
   obtain⟨h1,h2⟩:=Mk (l:=r) h
   exact⟨List.mem_cons_of_mem _ h1,h2⟩
  |some x=>
   rw[hi] at h
   by_cases e:i=t
   ·subst e
    rw[Aq] at h;cases h
    exact⟨by simp,hi⟩
   ·rw[Av _ _ e] at h
    obtain⟨h1,h2⟩:=Mk (l:=r) h
    exact⟨List.mem_cons_of_mem _ h1,h2⟩
theorem Of {vs:List Value} {tm:TM} {t:Nat}:∀{l:List Nat},dN vs tm l→t∈l→∃v,vs[t]?=some v∧lk t tm=some (.d (.v v))
 |[],_,h=>by simp at h
 |i::r,hk,h=>by
  rcases List.mem_cons.1 h with rfl|h
  ·exact hk.1
  ·exact Of hk.2 h
def R2:List AV→List Value→Prop
 |[],[]=>True
 |u::us,v::vs=>(match u with
  | .d (.v x)=>v=x
  |_=>True)∧R2 us vs
 |_,_=>False
theorem R3 {B:Nat} {fp:Nat→Nat→Prop} {w:World} {bm:BM} {gt:Nat→Value}:∀{us:List AV} {vs:List Value},vs.length=us.length→(∀(i:Nat) u v,us[i]?=some u→vs[i]?=some v→RA B fp w bm gt u v)→R2 us vs
 |[],[],_,_=>trivial
 |u::us,v::vs,hl,h=>by
  refine⟨?_,R3 (by simpa using hl) fun i x y hx hy=>h (i+1) x y (by simpa using hx) (by simpa using hy)⟩
  have h0:=h 0 u v rfl rfl
  split
  ·rename_i x;exact h0.val
  ·trivial
 |[],_::_,hl,_=>by simp at hl
 |_::_,[],hl,_=>by simp at hl
def Ml:Nat→List Value→TM
 |_,[]=>[]
 |i,v::vs=>(i,.d (.v v))::Ml (i+1) vs
theorem R4 {t:Nat} {u:AV}:∀(vs:List Value) (i:Nat),lk t (Ml i vs)=some u→i≤t∧∃v,vs[t-i]?=some v∧u= .d (.v v)
 |[],_,h=>by cases h
 |x::vs,i,h=>by
  simp only[Ml,lk] at h
  cases hb:Nat.beq i t with
  |true=>rw[hb] at h;cases h;obtain rfl:=Nat.eq_of_beq_eq_true hb;exact⟨Nat.le_refl _,x,by simp,rfl⟩
  |false=>
   rw[hb] at h
   obtain⟨h1,v,h2,h3⟩:=R4 vs (i+1) h
   refine⟨by omega,v,?_,h3⟩
   have:t-i=(t-(i+1))+1:=by omega
   rw[this,List.getElem?_cons_succ];exact h2
def lY (vs:List Value) (keep:List Nat) (sl n sz:Nat) (e:TypeId) (ds:List D) (σ:AS):Prop:=∃κ,lk sl σ.tm=some (.own κ n sz e ds)∧lk κ σ.tk=some (n,sz,e)∧dN vs σ.tm keep
theorem iP {P:Program} {C:Cx} {o:Oper} {σ:AS} {bm:BM} {gt:Nat→Value} {fp:Nat→Nat→Prop} {a:Act} {w:World} (hg:GG C bm gt fp σ a w) (hd:∀t,o.dst=some t→t<C.N) {f:FuncId} {fn:Func} {c:Code} {us:List AV} {vs:List Value} {S:AS→Prop} (hf:P.funcs[f]?=some fn) (hb:fn.body=some c) (hn:fn.results.size≤4) (hN:us.length≤fn.ntmps) (hN6:fn.ntmps≤1000000) (hl:vs.length=us.length)
 (hr:∀(i:Nat) u v,us[i]?=some u→vs[i]?=some v→RA C.W.heap.size fp w bm gt u v) (k sl κ n sz:Nat) (e:TypeId) (ds:List D) (keep:List Nat) (hsl:sl<fn.ntmps) (hκ:(AS.mk (inT us σ.tm) σ.bx σ.tk).clean κ=true)
 (hA:∀vs,R2 us vs→∀W fp0 z0,iO P ⟨W,fp0,fn.ntmps,fun _=>none,z0⟩ (Mi k c) (lY vs keep sl n sz e ds) ⟨Ml 0 vs,[],[]⟩)
 (hB:∀gh,A9 P ⟨C.W,C.fp0,fn.ntmps,gh,C.z0⟩ (Kx k c) (gH P fn.results.toList o.dst S) ⟨(sl,.own κ n sz e ds)::(Mj us keep++ghM 1000000 σ.tm),σ.bx,(κ,n,sz,e)::σ.tk⟩) {K:Act→World→Prop} {Q:Exit→Act→World→Prop} (hK:∀σ' a' w',S σ'→G C σ' a' w'→K a' w'):
 o.upon P a K Q (.ok (.enter f vs.toArray) w):=by
 rw[Oper.upon_enter]
 have hcalls:Calls P f vs.toArray w fun e w'=>∃v σ' u,e= .returned v∧S (σ'.ret o.dst u)∧∃bm gt fp a',GG (Cx.inn 1000000 C fn.ntmps a) bm gt fp σ' a' w'∧RA C.W.heap.size fp w' bm gt u v:=by
  refine calls_of_wp hf hb ?_
  have hGin:=hg.inn (M:=1000000) rfl (us:=us) (vs:=vs) hN6 hl hN hr
  have hG0:G ⟨w,fp,fn.ntmps,fun _=>none,bm.z⟩ ⟨Ml 0 vs,[],[]⟩ {tmps:=vs.toArray++Array.replicate (fn.ntmps-vs.toArray.size) undef,defers:=[]} w:=by
   refine⟨⟨fun _=>0,bm.z⟩,fun _=>undef,fp,{sz:= ?_,nN:=hN6,gd:=hg.gdw,za:=fun _ _ x=>x,zb:=fun _ _ x=> .inl x,zf:=hg.zf,ztk:=fun k x hk=>(by cases hk),df:=rfl,tm:=fun t u hu=> ?_,bx:=fun k cs hk=>(by cases hk),bxi:=fun k k' c c' hk=>(by cases hk),tk:=fun k n sz e hk=>(by cases hk),tki:=fun k k' x x' hk=>(by cases hk),tkb:=fun k k' x c hk=>(by cases hk),fpb:=fun b o hf=>⟨.inl hf,(hg.fpb b o hf).2⟩,fp0:=fun _ _ hf=>hf,fpB:=fun b o hf=>(hg.fpb b o hf).2,bel:=Below.refl _ _}⟩
   ·show _=fn.ntmps
    simp;omega
   ·obtain⟨_,v,h2,rfl⟩:=R4 vs 0 hu
    rw[Nat.sub_zero] at h2
    have hlt:=(List.getElem?_eq_some_iff.1 h2).1
    refine⟨v,?_,.d (.v v)⟩
    rw[Cx.val_lt (by omega),Array.getElem?_append_left (by simpa using hlt)]
    simpa using h2
  have hw:(dM (Mi k c) (Kx k c)).wp P (bodyPost P fn (fun e w'=>∃v σ' u,e= .returned v∧S (σ'.ret o.dst u)∧∃bm gt fp a',GG (Cx.inn 1000000 C fn.ntmps a) bm gt fp σ' a' w'∧RA C.W.heap.size fp w' bm gt u v)) {tmps:=vs.toArray++Array.replicate (fn.ntmps-vs.toArray.size) undef,defers:=[]} w:=by
   refine Wj (hA vs (R3 hl hr) w fp bm.z) hG0 ?_
   rintro σ1 a1 w1 ⟨κ1,k1,k2,k3⟩ ⟨bm1,gt1,fp1,hg1⟩
   obtain⟨v,hv,hra⟩:=hg1.tm sl _ k1
   have hres:I4 w fp bm.z w1 (.own 0 n sz e ds) v:=by
    refine⟨rfl,fp1,fun _=>gt1 κ1,bm1.z,hg1.fpb,?_,fun n' sz' e' ht=>by cases ht;exact⟨hg1.tk _ _ _ _ k2,hg1.ztk κ1 _ k2⟩,hg1.za,hg1.zf,hg1.zb⟩
    cases hra with|own hra=>exact .own (gt:=fun _=>gt1 κ1) (k:=0) hra
   obtain⟨bm2,gt2,fp2,hg2⟩:=hGin.back (t:=sl) (κ:=κ) hsl hκ hg1.bel hres
   have hg3:GG (Cx.inn 1000000 C fn.ntmps a) bm2 gt2 fp2 ⟨(sl,.own κ n sz e ds)::(Mj us keep++ghM 1000000 σ.tm),σ.bx,(κ,n,sz,e)::σ.tk⟩ a1 w1:=by
    refine hg2.act hg1.sz hg1.df rfl rfl fun t u hu=> ?_
    by_cases est:sl=t
    ·subst est
     rw[Aq] at hu
     cases hu
     obtain⟨v',q1,q2⟩:=hg2.tm sl (.own κ n sz e ds) (by show lk sl ((sl,_)::_)=_;rw[Aq];rfl)
     have e1:v'=v:=by
      rw[Cx.val_lt (by omega)] at q1
      simp only[Act.put] at q1
      have hh:sl<(vs.toArray++Array.replicate (fn.ntmps-vs.toArray.size) undef).size:=by simp;omega
      rw[Array.getElem?_setIfInBounds_self] at q1
      rw[if_pos hh] at q1
      exact(Option.some.inj q1).symm
     subst e1
     refine⟨v',?_,q2⟩
     rw[Cx.val_lt (by omega)] at hv⊢
     exact hv
    ·rw[Av _ _ est] at hu
     rcases T8 hu with hu|hu
     ·obtain⟨m1,m2⟩:=Mk hu
      have htl:=(List.getElem?_eq_some_iff.1 m2).1
      obtain⟨x,x1,x2⟩:=Of k3 m1
      obtain⟨y,y1,y2⟩:=hg1.tm t _ x2
      have exy:y=x:=y2.val
      subst exy
      have hin:lk t (inM 1000000 us σ.tm)=some u:=by
       have gen:∀(l:List AV) (i:Nat) (m:TM) (j:Nat),l[j]?=some u→lk (i+j) (Dq i l++m)=some u:=by
        intro l
        induction l with
        |nil=>intro i m j hj;simp at hj
        |cons q l ih=>
         intro i m j hj
         cases j with
         |zero=>simp at hj;subst hj;show lk i ((i,q)::_)=_;rw[Aq]
         |succ j=>
          show lk (i+(j+1)) ((i,q)::(Dq (i+1) l++m))=_
          rw[Av _ _ (by omega),show i+(j+1)=i+1+j by omega]
          exact ih (i+1) m j (by simpa using hj)
       have:=gen us 0 (ghM 1000000 σ.tm) t m2
       rwa[Nat.zero_add] at this
      obtain⟨z,z1,z2⟩:=hg2.tm t u (by show lk t ((sl,_)::_)=_;rw[Av _ _ est];exact hin)
      have hzx:z=y:=by
       rw[Cx.val_lt (by omega)] at z1
       simp only[Act.put] at z1
       rw[Array.getElem?_setIfInBounds_ne est,Array.getElem?_append_left (by simp;omega)] at z1
       have:vs[t]?=some z:=by simpa using z1
       rw[x1] at this;exact(Option.some.inj this).symm
      subst hzx
      refine⟨z,?_,z2⟩
      rw[Cx.val_lt (by omega)] at y1⊢
      exact y1
     ·obtain⟨g1,g2⟩:=T7 hu
      have hin:lk t (inM 1000000 us σ.tm)=some u:=by
       have gen:∀(l:List AV) (i:Nat) (m:TM),i+l.length≤t→lk t (Dq i l++m)=lk t m:=by
        intro l
        induction l with
        |nil=>intro i m _;rfl
        |cons q l ih=>
         intro i m hle
         rw[List.length_cons] at hle
         show lk t ((i,q)::(Dq (i+1) l++m))=_
         rw[Av _ _ (by omega)]
         exact ih (i+1) m (by omega)
       show lk t (Dq 0 us++ghM 1000000 σ.tm)=_
       rw[gen us 0 _ (by omega)];exact hu
      obtain⟨z,z1,z2⟩:=hg2.tm t u (by show lk t ((sl,_)::_)=_;rw[Av _ _ est];exact hin)
      exact⟨z,(Cx.val_ge g1).trans ((Cx.val_ge g1).symm.trans z1),z2⟩
   refine wp_mono (hB _ a1 w1 ⟨bm2,gt2,fp2,hg3⟩) fun e a1 w' ⟨σ',hΦ,bm',gt',fp',hg'⟩=> ?_
   have fin:(∃us,F7 P σ' fn.results.toList us∧S (σ'.ret o.dst (single us)))→bodyPost P fn (fun e w'=>∃v σ' u,e= .returned v∧S (σ'.ret o.dst u)∧∃bm gt fp a',GG (Cx.inn 1000000 C fn.ntmps a) bm gt fp σ' a' w'∧RA C.W.heap.size fp w' bm gt u v) .ret a1 w':=by
    rintro⟨us',h1,h2⟩
    obtain⟨v,hrun,hra⟩:=G0 hg' h1 hn
    exact⟨hg'.df,v,hrun,v,σ',single us',rfl,h2,bm',gt',fp',a1,hg',hra⟩
   cases e with
   |normal=>exact fin hΦ
   |ret=>exact fin hΦ
   |_=>exact hΦ.elim
  rw[R0] at hw
  exact hw
 refine hcalls.mono ?_
 rintro e w' ⟨v,σ',u,rfl,hS,bm',gt',fp',a',hg',hra⟩
 simp only[]
 have ho:=hg'.out (M:=1000000) rfl hg.sz hg.nN hg.df
 refine hK _ _ _ hS ?_
 unfold AS.ret
 cases hdd:o.dst with
 |none=>exact⟨bm',gt',fp',ho⟩
 |some t=>exact⟨bm',gt',fp',ho.put (t:=t) (hd t hdd) hra⟩
theorem Mm {P:Program} {C:Cx} {T:Tab} {o:Oper} {tm:TM} {bx:BX} {tk:TK} {f:FuncId} {s:Nat} {fs cs:List AV} {fn:Func} {c:Code} {args:Array Operand} {ats:Array TypeId} {us:List AV} {K:KS} (k sl κ n sz:Nat) (e:TypeId) (ds:List D) (keep:List Nat) (off N:Nat) (rs:Array ResultVar) (hT:TabOk P T) (hm:P.follows .mixedOrders=true) (ho:o.op= .call {callee:= .value (.tmp s),args:=args,argTypes:=ats}) (hd:V6 o.dst C.N=true)
 (hv:evT tm (.tmp s)=some (.cl f fs cs)) (hu:evL ⟨tm,bx,tk⟩ args.toList=some us) (hf:P.funcs[f]?=some fn) (hN:fn.ntmps=N) (hn0:(fn.name== "runtime.NumGoroutine")=false) (hb:fn.body=some c) (hr:fn.results=rs) (hn:Nat.ble rs.size 4=true) (hA:(Nat.ble (fs++us++cs).length N&&Nat.ble N 1000000&&Nat.blt sl N)=true)
 (hκ:(AS.mk (inT (fs++us++cs) tm) bx tk).clean κ=true)
 (h1:∀vs,R2 (fs++us++cs) vs→∀W fp0 z0,Wk P ⟨W,fp0,N,fun _=>none,z0⟩ T (Mi k c) (fun tm bx tk=>lY vs keep sl n sz e ds ⟨tm,bx,tk⟩) (Ml 0 vs) [] [])
 (h2:∀gh,Bi ((sl,.own κ n sz e ds)::(Mj (fs++us++cs) keep++ghM 1000000 tm)) (fun tm=>Gb P ⟨C.W,C.fp0,N,gh,C.z0⟩ ⟨T.ty,T.fd,T.st,T.mu,off⟩ (Kx k c) (G4 T rs o.dst K) (fun _ _ _ _=>False) (G4 T rs o.dst K) tm bx ((κ,n,sz,e)::tk))):NStep P C o tm bx tk K:=by
 simp only[Bool.and_eq_true] at hA
 subst hN hr
 refine⟨fun σ'=>K σ'.tm σ'.bx σ'.tk,?_,fun σ' h=>h⟩
 rintro a w ⟨bm,gt,fp,hg⟩ K' Q hK
 obtain⟨hl,hr⟩:=hg.evA hu
 have hv0:=hg.eval (x:= .tmp s) (Am hv)
 generalize hvv:a.eval (.tmp s)=v at hv0
 cases hv0 with
 |cl ms ns h3 h4 h6 h7=>
  have hrun:(execOp a.eval o).run P w= .ok (.enter f (ms++args.toList.map a.eval++ns).toArray) w:=by
   simp only[execOp,ho,resolve,hvv,Deferred.ofValue,invoke,Sem.run_bind,Sem.run_pure,Result.andThen_ok,F8 hf hn0 hb]
   obtain⟨l⟩:=args
   simp
  unfold Oper.wp
  rw[hrun]
  have app:∀{l1 l2:List AV} {m1 m2:List Value},m1.length=l1.length→m2.length=l2.length→(∀(i:Nat) u v,l1[i]?=some u→m1[i]?=some v→RA C.W.heap.size fp w bm gt u v)→(∀(i:Nat) u v,l2[i]?=some u→m2[i]?=some v→RA C.W.heap.size fp w bm gt u v)→∀(i:Nat) u v,(l1++l2)[i]?=some u→(m1++m2)[i]?=some v→RA C.W.heap.size fp w bm gt u v:=by
   intro l1 l2 m1 m2 e1 e2 r1 r2 i u v hu hv
   by_cases hi:i<l1.length
   ·rw[List.getElem?_append_left hi] at hu
    rw[List.getElem?_append_left (by omega)] at hv
    exact r1 i u v hu hv
   ·rw[List.getElem?_append_right (by omega)] at hu
    rw[List.getElem?_append_right (by omega)] at hv
    rw[e1] at hv
    exact r2 _ u v hu hv
  refine iP (us:=fs++us++cs) hg (fun t ht=>by unfold V6 at hd;rw[ht] at hd;exact ltN hd) hf hb (leN hn) (leN hA.1.1) (leN hA.1.2) ?_ (app (by rw[List.length_append,List.length_append,h3,hl]) h4 (app h3 hl h6 hr) h7) k sl κ n sz e ds keep (ltN hA.2) hκ (fun vs hvs W fp0 z0=>R1 hT hm (h1 vs hvs W fp0 z0)) (fun gh=> ?_) hK
  ·simp only[List.length_append];omega
  ·have hg:=Ay (K:=fun tm=>Gb P ⟨C.W,C.fp0,fn.ntmps,gh,C.z0⟩ ⟨T.ty,T.fd,T.st,T.mu,off⟩ (Kx k c) (G4 T fn.results o.dst K) (fun _ _ _ _=>False) (G4 T fn.results o.dst K) tm bx ((κ,n,sz,e)::tk)) (h2 gh)
   refine Cg (Lg (T:=⟨T.ty,T.fd,T.st,T.mu,off⟩) ⟨hT.ty,hT.fd,hT.st⟩ hm (Kx k c) _ _ _ _ _ _ hg) fun e σ he=> ?_
   cases e with
   |normal=>exact I9 hT he
   |exit id=>exact False.elim he
   |ret=>exact I9 hT he
   |goto l=>exact he.elim
   |panic c=>exact he.elim
   |_=>first|exact he.elim|exact he
abbrev sx (l:List UInt8):AV:= .d (.v (.string ⟨⟨l⟩⟩))
def Nr (l:List UInt8):List D:=[.v (.string ⟨⟨l⟩⟩)]
def Mn (t:Bool) (ps:List (List UInt8)):D:=C5 t 1 Nr ps
theorem R5 (t:Bool) (ps:List (List UInt8)):(Mn t ps).un=Mn false ps:=Fd (fun _=>rfl) t 1 ps
theorem R6 (ps:List (List UInt8)) (i:Nat):(ps.flatMap Nr)[i]?=(ps[i]?).map fun p=>D.v (.string ⟨⟨p⟩⟩):=by
 have:ps.flatMap Nr=ps.map fun p=>D.v (.string ⟨⟨p⟩⟩):=by
  induction ps with
  |nil=>rfl
  |cons p r ih=>rw[List.flatMap_cons,ih];rfl
 rw[this,List.getElem?_map]
theorem Mo (ps:List (List UInt8)):(ps.flatMap Nr).length=ps.length:=by
 induction ps with
 |nil=>rfl
 |cons p r ih=>rw[List.flatMap_cons,List.length_append,ih,List.length_cons];simp[Nr];omega
theorem Ji (s:List UInt8):(Ef s).length≤s.length+1:=by
 induction s with
 |nil=>simp[Ef]
 |cons c r ih=>
  rw[Ef]
  split
  ·simp only[List.length_cons];omega
  ·obtain⟨p,ps,h⟩:=Hy r
   rw[h] at ih⊢
   simp only[List.length_cons] at ih⊢;omega
theorem Pt (s:List UInt8) (hs:s.length≤4000000):Ab Tryz.prog 146 [.d (.v (.string ⟨⟨s⟩⟩)),.d (.v (.string ⟨#[46]⟩))] (fun r=>r= .d (Mn true (Ef s))):=by
 refine .of Tryz.func146 (by kernel_rfl) rfl rfl fun w fp0 bm gt vs hG hr=> ?_
 match vs,hr with
 |[a,b],hr=>
  rw[hr.1.val,hr.2.1.val]
  obtain⟨m,hm⟩:=hG.ml
  refine(Tryz.strings_Split ⟨⟨s⟩⟩ ⟨#[46]⟩ m w (by show s.length<_;omega) hm (by decide)).mono ?_
  rintro e w' ⟨rfl,rfl⟩
  rw[Kw]
  have hl:Lib.countB ⟨⟨s⟩⟩ ⟨#[46]⟩+1=(Ef s).length:=by
   have h1:=Lib.splitB_all ⟨#[46]⟩ (by decide) 0 _ ⟨⟨s⟩⟩ rfl
   rw[Kw,List.length_map] at h1
   exact h1.symm
  rw[hl]
  have hd:=Ji s
  refine⟨_,rfl,(Below.refl _ _).alloc (Nat.le_refl _) _,fun fp hfp hnew bm gt=> .d ?_⟩
  refine .sl ((Ef s).map fun p=> .string ⟨⟨p⟩⟩) (Nat.le_refl _) (by unfold maxLen;omega) (by rw[Mo,Nat.mul_one]) (by rw[Mo,List.length_map]) (fun h=>by cases h) (fun u hu=> ?_) (fun i d u hd hu=> ?_) (fun i u hu=> ?_)
  ·obtain⟨p,-,rfl⟩:=List.mem_map.1 hu;rfl
  ·rw[R6] at hd
   rw[List.getElem?_map] at hu
   cases hp:(Ef s)[i]? with
   |none=>rw[hp] at hd;cases hd
   |some p=>rw[hp] at hd hu;cases hd;cases hu;exact .v _
  ·refine⟨w.heap.size,0,rfl,hnew _ _ (Nat.le_refl _) (by rw[World.size_alloc];omega),fun _=>Nat.le_refl _,?_⟩
   rw[World.cell?_alloc_new,Nat.zero_add]
   simpa[List.map_map,Function.comp_def] using hu
def nJ:(Nat→Nat→Prop)→World→Value→Prop:=fun _ _ v=>∃t p,v= .iface t p
def Za:AV:= .sem nJ
def nK:AV:= .d (.v .nilIface)
def puA (l:List UInt8):AV:=match Lib.parseUintB 32 l with
 | .ok u=> .tup [.d (.v (.int .u64 u)),nK]
 |Lib.NumEnd.syntax=> .tup [.d (.v (.int .u64 0)),Za]
 | .range=> .tup [.d (.v (.int .u64 4294967295)),Za]
theorem dO {B:Nat} {fp:Nat→Nat→Prop} {w:World} {bm:BM} {gt:Nat→Value} (t:TypeId) (p:Value):RA B fp w bm gt Za (.iface t p):= .sem rfl fun _ _ _ _ _=>⟨t,p,rfl⟩
theorem Uy (l:List UInt8) (hl:l.length≤4000000):Ab Tryz.prog 147 [.d (.v (.string ⟨⟨l⟩⟩)),iv 10,iv 32] (fun r=>r=puA l):=by
 have hs:(⟨⟨l⟩⟩:ByteArray).size=l.length:=rfl
 unfold puA
 have hh:(∃u,Lib.parseUintB 32 l= .ok u)∨Lib.parseUintB 32 l=Lib.NumEnd.syntax∨Lib.parseUintB 32 l= .range:=by
  cases Lib.parseUintB 32 l
  ·exact .inl ⟨_,rfl⟩
  ·exact .inr (.inl rfl)
  ·exact .inr (.inr rfl)
 rcases hh with⟨u,hp⟩|hp|hp<;>rw[hp]
 ·
  refine .of Tryz.func147 (by kernel_rfl) rfl rfl fun w fp0 bm gt vs hG hr=> ?_
  match vs,hr with
  |[a,b,c],hr=>
   rw[hr.1.val,hr.2.1.val,hr.2.2.1.val]
   refine(Tryz.strconv_ParseUint_10_at32_ok ⟨⟨l⟩⟩ (by rw[hs];omega) u hp w).mono ?_
   rintro e w' ⟨rfl,hw⟩
   refine⟨_,rfl,?_,fun fp _ _ bm gt=> .tup [_,_] rfl fun i x v hx hv=> ?_⟩
   ·rcases hw with rfl|rfl
    ·exact Below.refl _ _
    ·exact Lib.bytesWorld_below _ _ _
   ·match i with
    |0=>simp at hx hv;subst hx hv;exact .d (.v _)
    |1=>simp at hx hv;subst hx hv;exact .d (.v _)
 ·
  refine .of Tryz.func147 (by kernel_rfl) rfl rfl fun w fp0 bm gt vs hG hr=> ?_
  match vs,hr with
  |[a,b,c],hr=>
   rw[hr.1.val,hr.2.1.val,hr.2.2.1.val]
   obtain⟨ev,h1,h2⟩:=hG.syn
   refine(Tryz.strconv_ParseUint_10_at32_syntax ⟨⟨l⟩⟩ (by rw[hs];omega) hp ev w h1 h2).mono ?_
   rintro e w' ⟨N,rfl,-,-,hb⟩
   refine⟨_,rfl,hb,fun fp _ _ bm gt=> .tup [_,_] rfl fun i x v hx hv=> ?_⟩
   match i with
   |0=>simp at hx hv;subst hx hv;exact .d (.v _)
   |1=>simp at hx hv;subst hx hv;exact dO _ _
 ·
  refine .of Tryz.func147 (by kernel_rfl) rfl rfl fun w fp0 bm gt vs hG hr=> ?_
  match vs,hr with
  |[a,b,c],hr=>
   rw[hr.1.val,hr.2.1.val,hr.2.2.1.val]
   obtain⟨ev,h1,h2⟩:=hG.rng
   refine(Tryz.strconv_ParseUint_10_at32_range ⟨⟨l⟩⟩ (by rw[hs];omega) hp ev w h1 h2).mono ?_
   rintro e w' ⟨N,rfl,-,-,hb⟩
   refine⟨_,rfl,hb,fun fp _ _ bm gt=> .tup [_,_] rfl fun i x v hx hv=> ?_⟩
   match i with
   |0=>simp at hx hv;subst hx hv;exact .d (.v _)
   |1=>simp at hx hv;subst hx hv;exact dO _ _
open Go.Sort Go.Lib in
theorem Zb (u:Nat) (hu64:u<18446744073709551616) (w:World) (htab:Lib.TabIs Tryz.prog w "internal/strconv.uint64pow10" .u64 Lib.pow10Tab):
 Calls Tryz.prog 187 #[.int .u64 u,.int .i64 10] w fun e w'=>e= .returned (.string ⟨(Lib.decDigits u).toArray⟩)∧Below w.heap.size w w':=by
 by_cases hs:u<100
 ·have d1:decide ((u:Int)<100)=true:=decide_eq_true (by omega)
  have w1:IntKind.i64.wrap (u:Int)=(u:Int):=IntWalk.i64_in _ (by omega)
  have hc:=fun w=>Tryz.internal_strconv_small u hs w
  go_enter Tryz.func187,Tryz.ntmps187
  go_wp2_with (go_at_call 212;refine(hc _).mono ?_;rintro e w' ⟨rfl,rfl⟩)
  go_ret
  exact⟨rfl,Below.refl _ _⟩
 ·have d1:decide ((u:Int)<100)=false:=decide_eq_false (by omega)
  have hnd20:Lib.nDigits u≤20:=by have:=Lib.numDigits_eq u (by omega) hu64;split at this<;>omega
  have hal:Tryz.prog.arrayLen 256=24:=by simp[Program.arrayLen,Tryz.underlying256]
  have hsl1:∀W,(Instr.sliceAt 256 (.pointer (some ⟨w.heap.size,0,none⟩)) none (some (.int .i64 (Lib.nDigits u:Int))) none).run Tryz.prog W= .ok (.slice (some ⟨w.heap.size,0,none⟩) (Lib.nDigits u) 24) W:=fun W=>by
   rw[run_sliceAt_array_h W 256 ⟨w.heap.size,0,none⟩ (by simp[Program.arrayLen,Program.elem,Tryz.underlying256]) .i64 (Lib.nDigits u:Int) (by omega) (by rw[hal];omega)]
   rw[hal];simp[Program.elem,Tryz.underlying256,Tryz.sizeOf5,Result.andThen,slicedAt,Lib.add_plain]
  have hH0:Holds (fun(b:UInt8)=>Value.int .u8 (b.toNat:Int)) (w.alloc (.cells Lib.zeros24 256)) w.heap.size 0 (Array.replicate (Lib.nDigits u) (0:UInt8)):=fun i hi=>by
   simp only[Array.size_replicate] at hi
   refine⟨?_,World.frozen?_alloc_new _ _ _ _⟩
   rw[World.cell?_alloc_new,Nat.zero_add,Lib.zeros24_at i (by omega)]
   simp[hi]
  have hfmt:=Tryz.internal_strconv_formatBase10 w.heap.size 0 24 u (Array.replicate (Lib.nDigits u) 0) (w.alloc (.cells Lib.zeros24 256)) hH0 (by rw[Array.size_replicate];exact Lib.lt_pow_nDigits u) hu64 (by rw[Array.size_replicate];omega)
  rw[Array.size_replicate] at hfmt
  have HH0:=Lib.hid hH0
  clear hH0 hal
  go_enter Tryz.func187,Tryz.ntmps187
  go_wp2_with (first
   |(go_at_call 213;refine(Tryz.internal_strconv_numDigits u (by omega) hu64 _ (Lib.tabIs_alloc htab _)).mono ?_;rintro e w' ⟨rfl,rfl⟩))
  go_at_call 214
  refine hfmt.mono ?_
  rintro e w' ⟨rfl,k,v',dk,rfl,hF⟩
  have hcv:(convert 22 9 (.slice (some ⟨w.heap.size,0,none⟩) (Lib.nDigits u) 24)).run Tryz.prog ((putRow (fun(b:UInt8)=>Value.int .u8 (b.toNat:Int)) (w.alloc (.cells Lib.zeros24 256)) w.heap.size 0 dk).drewN k)= .ok (.string ⟨(Lib.decDigits u).toArray⟩) ((putRow (fun(b:UInt8)=>Value.int .u8 (b.toNat:Int)) (w.alloc (.cells Lib.zeros24 256)) w.heap.size 0 dk).drewN k):=by
   have h:=run_convert_bytes_back (P:=Tryz.prog) ((putRow (fun(b:UInt8)=>Value.int .u8 (b.toNat:Int)) (w.alloc (.cells Lib.zeros24 256)) w.heap.size 0 dk).drewN k) 22 9 5 ⟨w.heap.size,0,none⟩ 24 (Lib.decDigits u) Tryz.underlying22 Tryz.underlying5 Tryz.underlying9 (fun j hj=>by
    rw[Lib.row_is_numeral hF j hj,Lib.add_plain,World.cell?_drewN]
    exact cell?_putRow (fun(b:UInt8)=>Value.int .u8 (b.toNat:Int)) _ w.heap.size 0 _ dk HH0.out (by rw[hF.size,Array.size_replicate]) j (by rw[hF.size];rw[Lib.decDigits_length] at hj;exact hj))
   rw[Lib.decDigits_length] at h
   exact h
  go_wp2
  go_ret
  refine⟨rfl,?_⟩
  refine⟨rfl,rfl,rfl,?_,fun i hi=> ?_⟩
  ·show _≤(putRow _ _ _ _ _).heap.size
   rw[Sort.size_putRow,World.size_alloc];omega
  ·show(putRow _ _ _ _ _).heap[i]?=_
   simp only[putRow,mapBlock,Array.getElem?_modify]
   rw[if_neg (by omega)]
   exact Below.heap_alloc w _ i hi
theorem nL (d:Nat) (w:World):(Op.equalIn (d+1) 192 .nilIface .nilIface).run Tryz.prog w= .ok true w:=by
 simp[Op.equalIn,Sem.run_bind,run_underlying Tryz.underlying192,Result.andThen]
theorem nM (d:Nat) (t:TypeId) (p:Value) (w:World):(Op.equalIn (d+1) 192 (.iface t p) .nilIface).run Tryz.prog w= .ok false w:=by
 simp[Op.equalIn,Sem.run_bind,run_underlying Tryz.underlying192,Result.andThen]
theorem dP (x:Operand) (w:World):(do eqGuard .neq 192 x (.const .nilIface) .nilIface .nilIface;binOp .neq 192 .nilIface .nilIface:Sem Value).run Tryz.prog w= .ok (.bool false) w:=by
 have e:∀w,(Op.equal 192 .nilIface .nilIface).run Tryz.prog w= .ok true w:=fun w=>nL 9999 w
 simp[eqGuard,Result.andThen,binOp,e]
theorem dQ (x:Operand) (t:TypeId) (p:Value) (w:World):(do eqGuard .neq 192 x (.const .nilIface) (.iface t p) .nilIface;binOp .neq 192 (.iface t p) .nilIface:Sem Value).run Tryz.prog w= .ok (.bool true) w:=by
 have e:∀w,(Op.equal 192 (.iface t p) .nilIface).run Tryz.prog w= .ok false w:=fun w=>nM 9999 t p w
 simp[eqGuard,Result.andThen,binOp,e]
section
variable {C:Cx} {o:Oper} {σ:AS} {t:Nat}
theorem Mp {yt:TypeId} {x:Operand} (ho:o.op= .binOp .neq 192 x (.const .nilIface) yt) (hd:o.dst=some t) (ht:t<C.N) (hx:σ.eval x=some nK):Aw Tryz.prog C o σ (σ.put t (bv false)):=
 Al hd ht fun a w bm gt fp hg=>⟨_,by
  have h1:=(hg.eval hx).val
  have h2:a.eval (.const .nilIface)= .nilIface:=rfl
  simp only[execOp,ho,h1,h2]
  rw[Sem.run_bind,dP x w]
  rfl,.d (.v _)⟩
theorem Uz {yt:TypeId} {x:Operand} (ho:o.op= .binOp .neq 192 x (.const .nilIface) yt) (hd:o.dst=some t) (ht:t<C.N) (hx:σ.eval x=some Za):Aw Tryz.prog C o σ (σ.put t (bv true)):=
 Al hd ht fun a w bm gt fp hg=>by
  have h:=hg.eval hx
  generalize hv:a.eval x=v at h
  unfold Za at h
  cases h with
  |sem _ h=>
   obtain⟨ti,p,rfl⟩:=h bm.z w (fun _ _ h=>h) (fun _ _ _=>rfl) (NC.refl w)
   refine⟨_,?_,.d (.v _)⟩
   have h2:a.eval (.const .nilIface)= .nilIface:=rfl
   simp only[execOp,ho,hv,h2]
   rw[Sem.run_bind,dQ x ti p w]
   rfl
end
theorem dR (u:Nat) (hu:u<18446744073709551616):Ab Tryz.prog 187 [.d (.v (.int .u64 u)),iv 10] (fun r=>r=sx (Lib.decDigits u)):=by
 refine .of Tryz.func187 (by kernel_rfl) rfl rfl fun w fp0 bm gt vs hG hr=> ?_
 match vs,hr with
 |[a,b],hr=>
  rw[hr.1.val,hr.2.1.val]
  refine(Zb u hu w hG.pow).mono ?_
  rintro e w' ⟨rfl,hb⟩
  exact⟨_,rfl,hb,fun fp _ _ bm gt=> .d (.v _)⟩
theorem Wl (u:Nat) (hu:u<18446744073709551616):Ab Tryz.prog 148 [.d (.v (.int .u64 u)),iv 10] (fun r=>r=sx (Lib.decDigits u)):=by
 have h:=dR u hu
 refine acQ 8 Tryz.func148 rfl rfl fun _ _ _=> ?_
 (repeat'((conv=>whnf);refine NCall.eq h rfl ?_));(all_goals(conv=>whnf))
 all_goals exact NEnd.eq leQ
theorem dS (ps:List (List UInt8)) (h0:ps≠[]) (hn:ps.length≤4000000) (hl:(Lib.join ps [46]).length≤100000000):Ab Tryz.prog 194 [.d (Mn false ps),.d (.v (.string ⟨#[46]⟩))] (fun r=>r=sx (Lib.join ps [46])):=by
 refine .of Tryz.func194 (by kernel_rfl) rfl rfl fun w fp0 bm gt vs hG hr=> ?_
 match vs,hr with
 |[a,b],hr=>
  rw[hr.2.1.val]
  have h1:=hr.1
  generalize hq:AV.d (Mn false ps)=q at h1
  cases h1 with
  |d h1=>
   cases hq
   unfold Mn C5 at h1
   generalize hq:D.sl false ps.length 1 (ps.flatMap Nr)=q at h1
   cases h1 with
   |sl us k1 k2 k3 k4 k5 k6 k7 k8=>
    cases hq
    rw[Mo] at k4
    obtain⟨p,r,rfl⟩:∃p r,ps=p::r:=by cases ps with|nil=>exact absurd rfl h0|cons p r=>exact⟨p,r,rfl⟩
    have hus0:0<us.length:=by rw[k4];simp
    have hus:us[0]?=some us[0]:=List.getElem?_eq_getElem hus0
    obtain⟨bk,o,rfl,-,-,hc0⟩:=k8 0 _ hus
    have hlt:bk<w.heap.size:=World.block_lt_of_cell? w _ hc0
    have hm:((p::r).map fun p=>(⟨⟨p⟩⟩:ByteArray)).map (·.data.toList)=p::r:=by rw[List.map_map];exact List.map_id _
    have hJ:=Tryz.strings_Join bk o _ ((p::r).map fun p=>⟨⟨p⟩⟩) ⟨#[46]⟩ w (fun j x hx=> ?_) hlt (by rw[List.length_map];omega) (by rw[List.length_map];exact k1) (by rw[hm];show(Lib.join (p::r) [46]).length≤_;omega)
    ·rw[hm,List.length_map] at hJ
     refine hJ.mono ?_
     rintro e w' ⟨rfl,hb⟩
     exact⟨_,rfl,hb,fun fp _ _ bm gt=> .d (.v _)⟩
    ·rw[List.getElem?_map,Option.map_eq_some_iff] at hx
     obtain⟨y,hy,rfl⟩:=hx
     have hj:j<us.length:=by rw[k4];exact(List.getElem?_eq_some_iff.1 hy).1
     have hu:us[j]?=some us[j]:=List.getElem?_eq_getElem hj
     obtain⟨b',o',e1,-,-,e4⟩:=k8 j _ hu
     cases e1
     rw[e4]
     have:=k7 j (.v (.string ⟨⟨y⟩⟩)) us[j] (by rw[R6,hy];rfl) hu
     generalize us[j]=z at this
     cases this;rfl
   |v=>cases hq
   |cp=>cases hq
   |fn=>cases hq
  |ptr=>cases hq
  |own=>cases hq
  |agg=>cases hq
  |tup=>cases hq
  |sem=>cases hq
  |cl=>cases hq
  |pk=>cases hq
theorem J8:∀(a:List Nat),Lib.join (a.map Lib.decDigits) [46]=Cl a
 |[]=>rfl
 |[n]=>by simp[Lib.join,Cl,List.intercalate]
 |n::m::r=>by
  have ih:=J8 (m::r)
  rw[Cl,←ih]
  simp[Lib.join,List.intercalate]
def U0 (n:Nat):List D:=[.v (.int .u32 n)]
def U1 (t:Bool) (a:List Nat):D:=C5 t 1 U0 a
theorem Wm (t:Bool) (a:List Nat):(U1 t a).un=U1 false a:=Fd (fun _=>rfl) t 1 a
def Zc (n:Nat):List D:=[.v (.int .u64 n)]
def lZ (t:Bool) (a:List Nat):D:=C5 t 1 Zc a
theorem Wn (t:Bool) (a:List Nat):(lZ t a).un=lZ false a:=Fd (fun _=>rfl) t 1 a
theorem Mq {α:Type} {f:α→List D} (hf:∀x,D.uns (f x)=f x) (l:List α):D.uns (l.flatMap f)=l.flatMap f:=by
 induction l with
 |nil=>rfl
 |cons x r ih=>rw[List.flatMap_cons,D.uns_eq,List.map_append,←D.uns_eq,←D.uns_eq,hf,ih]
theorem Wo (a:List Nat):D.uns (a.flatMap U0)=a.flatMap U0:=Mq (fun _=>rfl) a
theorem Wp (a:List Nat):D.uns (a.flatMap Zc)=a.flatMap Zc:=Mq (fun _=>rfl) a
theorem Wq (a:List (List UInt8)):D.uns (a.flatMap Nr)=a.flatMap Nr:=Mq (fun _=>rfl) a
abbrev uv (n:Nat):AV:= .d (.v (.int .u64 n))
abbrev wv (n:Nat):AV:= .d (.v (.int .u32 n))
theorem Jj (a:List Nat) (ha:a.length≤1000000000):Ab Tryz.prog 149 [.d (U1 false a)] (fun r=>r=bv (Cb a)):=by
 match a,ha with
 |[],_=>
  refine acQ 24 Tryz.func149 rfl rfl fun _ _ _=> ?_
  (repeat'((conv=>whnf);refine NBr.yes ?_));(all_goals(conv=>whnf))
  all_goals exact NEnd.eq leQ
 |[x],_=>
  refine acQ 24 Tryz.func149 rfl rfl fun _ _ _=> ?_
  (repeat'((conv=>whnf);refine NBr.yes ?_));(all_goals(conv=>whnf))
  all_goals exact NEnd.eq leQ
 |x::y::r,ha=>
  have h0:(x::y::r)[0]?=some x:=rfl
  have h1:(x::y::r)[1]?=some y:=rfl
  simp only[List.length_cons] at ha
  by_cases c1:x≤2
  ·have g1:decide ((x:Int)>2)=false:=decide_eq_false (by omega)
   by_cases c2:x<2
   ·have g2:decide ((x:Int)<2)=true:=decide_eq_true (by omega)
    have e:Cb (x::y::r)=decide ((y:Int)<40):=by
     rw[Cb,if_pos c2,decide_eq_true c1,Bool.true_and,decide_eq_decide];omega
    rw[e]
    refine acQ 24 Tryz.func149 rfl rfl fun _ _ _=> ?_
    (repeat'((conv=>whnf);first|refine NBr.no ?_|refine NBr.pos asP ?_|refine NBr.neg asP ?_|refine NIdx.tab (fun _=>rfl) h0 ?_|refine NIdx.tab (fun _=>rfl) h1 ?_));(all_goals(conv=>whnf))
    all_goals exact NEnd.eq leQ
   ·have g2:decide ((x:Int)<2)=false:=decide_eq_false (by omega)
    have e:Cb (x::y::r)=decide ((y:Int)≤4294967215):=by
     rw[Cb,if_neg c2,decide_eq_true c1,Bool.true_and,decide_eq_decide];omega
    rw[e]
    refine acQ 24 Tryz.func149 rfl rfl fun _ _ _=> ?_
    (repeat'((conv=>whnf);first|refine NBr.no ?_|refine NBr.neg asP ?_|refine NIdx.tab (fun _=>rfl) h0 ?_|refine NIdx.tab (fun _=>rfl) h1 ?_));(all_goals(conv=>whnf))
    all_goals exact NEnd.eq leQ
  ·have g1:decide ((x:Int)>2)=true:=decide_eq_true (by omega)
   have e:Cb (x::y::r)=false:=by rw[Cb,decide_eq_false c1];rfl
   rw[e]
   refine acQ 24 Tryz.func149 rfl rfl fun _ _ _=> ?_
   (repeat'((conv=>whnf);first|refine NBr.no ?_|refine NBr.pos asP ?_|refine NIdx.tab (fun _=>rfl) h0 ?_));(all_goals(conv=>whnf))
   all_goals exact NEnd.eq leQ
def R7 (s:List UInt8):AV:=match De s with
 |some a=> .tup [.d (U1 true a),iv 0]
 |none=> .tup [Be,iv 11]
theorem Hz:∀{ps:List (List UInt8)} {a:List Nat},Di ps=some a→a.length=ps.length
 |[],a,h=>by rw[Di] at h;cases h;rfl
 |p::r,a,h=>by
  rw[Di] at h
  split at h
  ·rename_i n l h1 h2
   cases h
   rw[List.length_cons,List.length_cons,Hz h2]
  ·cases h
theorem Mr:∀{ps:List (List UInt8)} {a:List Nat} {p:List UInt8} {n:Nat},Di ps=some a→K6 p=some n→Di (ps++[p])=some (a++[n])
 |[],a,p,n,h,hp=>by rw[Di] at h;cases h;rw[List.nil_append,Di,hp];rfl
 |q::r,a,p,n,h,hp=>by
  rw[Di] at h
  split at h
  ·rename_i m l h1 h2
   cases h
   rw[List.cons_append,Di,h1,Mr h2 hp];rfl
  ·cases h
theorem Ip:∀{ps:List (List UInt8)} {p:List UInt8},p∈ps→K6 p=none→Di ps=none
 |q::r,p,h,hp=>by
  rw[Di]
  rcases List.mem_cons.1 h with rfl|h
  ·rw[hp]
  ·rw[Ip h hp];cases K6 q<;>rfl
theorem H0 {α:Type} {l:List α} {i:Nat} {x:α} (h:l[i]?=some x):l.take (i+1)=l.take i++[x]:=by
 obtain⟨hlt,he⟩:=List.getElem?_eq_some_iff.1 h
 rw[List.take_succ_eq_append_getElem hlt,he]
theorem nO (a b:List UInt8):(a==b)=decide (a=b):=by
 by_cases h:a=b
 ·subst h;simp
 ·rw[decide_eq_false h];exact beq_false_of_ne h
theorem Pu:∀(s p:List UInt8),p∈Ef s→p.length≤s.length
 |[],p,h=>by simp[Ef] at h;subst h;simp
 |c::r,p,h=>by
  rw[Ef] at h
  split at h
  ·rcases List.mem_cons.1 h with rfl|h
   ·simp
   ·have:=Pu r p h;simp only[List.length_cons];omega
  ·obtain⟨q,qs,hq⟩:=Hy r
   have ih:=Pu r
   rw[hq] at h ih
   rcases List.mem_cons.1 h with rfl|h
   ·have:=ih q (by simp);simp only[List.length_cons];omega
   ·have:=ih p (by simp[h]);simp only[List.length_cons];omega
theorem Ms {p:Prop} (h:p:=by first|rfl|(simp only[AV.gives,AV.ren,AV.give,D.un,D.uns,Ai,An,List.nil_append,List.append_nil,List.cons_append,Wm,R5,Wn,Ey,Wo,Wp,Wq];first|done|rfl)):p:=h
theorem G8 (s:List UInt8) (hs:s.length≤4000000):Ab Tryz.prog 104 [sx s] (fun r=>r=R7 s):=by
 have hS:=Pt s hs
 have hdl:=Ji s
 have hple:=Pu s
 unfold R7 De
 generalize Ef s=ps at hS hdl hple⊢
 refine acQ 39 Tryz.func104 rfl rfl fun _ _ _=> ?_
 (repeat'((conv=>whnf);refine NCall.eq hS rfl ?_));(all_goals(conv=>whnf))
 refine NLoop.goA [.s 4 1 125] (fun p:Nat×List Nat=>p.1≤ps.length∧Di (ps.take p.1)=some p.2) (fun p=>ps.length-p.1) (fun p=>⟨[(4,Ey 4 1 125 U0 p.2),(10,.d (Mn true ps)),(11,iv ps.length),(12,iv p.1)],[],[(4,(p.2.length,1,125))]⟩) (0,[]) ⟨by simp,rfl⟩ leQ ?_
 rintro⟨i,ns⟩ ⟨hi,hns⟩
 simp only at hi hns
 have hnl:=Hz hns
 rw[List.length_take] at hnl
 by_cases hik:i<ps.length
 ·obtain⟨p,hp⟩:∃p,ps[i]?=some p:=⟨_,List.getElem?_eq_getElem hik⟩
  have hpl:=hple p (List.mem_of_getElem? hp)
  have hP:=Uy p (by omega)
  unfold puA at hP
  have hh:(∃u,Lib.parseUintB 32 p= .ok u)∨∃n,Ab Tryz.prog 147 [sx p,iv 10,iv 32] (fun r=>r= .tup [uv n,Za])∧K6 p=none:=by
   unfold K6
   generalize Lib.parseUintB 32 p=q at hP
   cases q with
   |ok u=>exact .inl ⟨u,rfl⟩
   |_=>exact .inr ⟨_,hP,rfl⟩
  rcases hh with⟨u,hu⟩|⟨n,hP',hn⟩
  ·rw[hu] at hP
   have hule:=Lib.parseUintB_le hu
   have hF:=Wl u (by omega)
   by_cases hd:Lib.decDigits u=p
   ·have ha:K6 p=some u:=by unfold K6;rw[hu];exact if_pos hd
    have hne:(!(Lib.decDigits u==p))=false:=by rw[hd];simp
    (repeat'((conv=>whnf);first|refine NBr.no ?_|refine NBr.neg asP ?_|refine NIdx.tab (fun _=>rfl) hp ?_|refine NCall.eq hP rfl ?_|refine NCall.eq hF rfl ?_|refine NStep.go (Mp rfl rfl (ltN rfl) rfl) ?_|refine NApp.one U0 u ?_|(with_reducible refine NInt.i64 ?_)|(with_reducible refine NInt.u32 ?_)|(refine NBr.dec (fun hc hcP=> ?_) (fun hc hcP=> ?_)<;>try(exfalso;omega))));(all_goals(conv=>whnf))
    refine⟨(i+1,ns++[u]),⟨by show i+1≤_;omega,?_⟩,by show ps.length-(i+1)<ps.length-i;omega,?_⟩
    ·show Di (ps.take (i+1))=_
     rw[H0 hp];exact Mr hns ha
    ·exact leQ
   ·have ha:K6 p=none:=by unfold K6;rw[hu];exact if_neg hd
    have hne:(!(Lib.decDigits u==p))=true:=by rw[nO,decide_eq_false hd];rfl
    rw[Ip (List.mem_of_getElem? hp) ha]
    (repeat'((conv=>whnf);first|refine NBr.no ?_|refine NBr.pos asP ?_|refine NIdx.tab (fun _=>rfl) hp ?_|refine NCall.eq hP rfl ?_|refine NCall.eq hF rfl ?_|refine NStep.go (Mp rfl rfl (ltN rfl) rfl) ?_|(refine NBr.dec (fun hc hcP=> ?_) (fun hc hcP=> ?_)<;>try(exfalso;omega))));(all_goals(conv=>whnf))
    all_goals exact NEnd.eq leQ
  ·rw[Ip (List.mem_of_getElem? hp) hn]
   (repeat'((conv=>whnf);first|refine NBr.yes ?_|refine NIdx.tab (fun _=>rfl) hp ?_|refine NCall.eq hP' rfl ?_|refine NStep.go (Uz rfl rfl (ltN rfl) rfl) ?_|(refine NBr.dec (fun hc hcP=> ?_) (fun hc hcP=> ?_)<;>try(exfalso;omega))));(all_goals(conv=>whnf))
   all_goals exact NEnd.eq leQ
 ·obtain rfl:i=ps.length:=by omega
  rw[List.take_length] at hns
  have hR:=Jj ns (by omega)
  rw[hns]
  cases hr:Cb ns
  ·rw[hr] at hR
   simp only[hr]
   (repeat'((conv=>whnf);first|refine NBr.yes ?_|refine NCall.eq hR Ms ?_|(refine NBr.dec (fun hc hcP=> ?_) (fun hc hcP=> ?_)<;>try(exfalso;omega))));(all_goals(conv=>whnf))
   all_goals exact NEnd.eq leQ
  ·rw[hr] at hR
   simp only[hr]
   (repeat'((conv=>whnf);first|refine NBr.no ?_|refine NCall.eq hR Ms ?_|(refine NBr.dec (fun hc hcP=> ?_) (fun hc hcP=> ?_)<;>try(exfalso;omega))));(all_goals(conv=>whnf))
   all_goals exact NEnd.eq leQ
theorem Pv (s:List UInt8) (hs:s.length≤4000000):Ab Tryz.prog 222 [sx s] (fun r=>r=bv (Ff s)):=by
 have hA:=G8 s hs
 unfold R7 at hA
 unfold Ff
 generalize De s=q at hA⊢
 cases q with
 |none=>
  refine acQ 12 Tryz.func222 rfl rfl fun _ _ _=> ?_
  (repeat'((conv=>whnf);refine NCall.eq hA rfl ?_));(all_goals(conv=>whnf))
  all_goals exact NEnd.eq leQ
 |some a=>
  refine acQ 12 Tryz.func222 rfl rfl fun _ _ _=> ?_
  (repeat'((conv=>whnf);refine NCall.eq hA rfl ?_));(all_goals(conv=>whnf))
  all_goals exact NEnd.eq leQ
theorem Wr (n:Nat) (hn:n≤4294967295):(Lib.decDigits n).length≤20:=by
 rw[Lib.decDigits_length]
 have:=Lib.nDigits_pos n
 rcases Nat.eq_zero_or_pos n with h|h
 ·subst h;rw[Lib.nDigits_small (by omega)];omega
 ·have:=Lib.numDigits_eq n h (by omega)
  have h2:=this.2
  have h3:=this.1
  split at h3<;>omega
theorem Og:∀(a:List Nat),(∀n∈a,n≤4294967295)→(Cl a).length≤21*a.length
 |[],_=>by simp[Cl]
 |[n],h=>by
  have:=Wr n (h n (by simp))
  rw[Cl,List.length_singleton];omega
 |n::m::r,h=>by
  have h1:=Wr n (h n (by simp))
  have h2:=Og (m::r) (fun x hx=>h x (by simp[hx]))
  rw[Cl,List.length_append,List.length_cons]
  simp only[List.length_cons] at h2⊢
  omega
theorem R8 (a:List Nat) (hb:∀n∈a,n≤4294967295) (ha:a.length≤4000000):Ab Tryz.prog 163 [.d (U1 false a)] (fun r=>r=if Cb a then .tup [sx (Cl a),iv 0] else .tup [sx [],iv 8]):=by
 have hR:=Jj a (by omega)
 cases hr:Cb a
 ·rw[hr] at hR
  rw[if_neg (by simp)]
  refine acQ 25 Tryz.func163 rfl rfl fun _ _ _=> ?_
  (repeat'((conv=>whnf);first|refine NBr.yes ?_|refine NCall.eq hR Ms ?_));(all_goals(conv=>whnf))
  all_goals exact NEnd.eq leQ
 ·rw[hr] at hR
  rw[if_pos rfl]
  obtain⟨x,y,r,hxy,-⟩:=Ei hr
  have htl:=Og a hb
  have hJ:=dS (a.map Lib.decDigits) (by rw[hxy];simp) (by rw[List.length_map];omega) (by rw[J8];omega)
  rw[J8] at hJ
  refine acQ 25 Tryz.func163 rfl rfl fun _ _ _=> ?_
  (repeat'((conv=>whnf);first|refine NBr.no ?_|refine NCall.eq hR Ms ?_));(all_goals(conv=>whnf))
  refine NLoop.goA [.s 4 1 9] (fun i:Nat=>i≤a.length) (fun i=>a.length-i) (fun i=>⟨[(4,Ey 4 1 9 Nr ((a.take i).map Lib.decDigits)),(10,.d (U1 false a)),(11,iv a.length),(12,iv i)],[],[(4,(((a.take i).map Lib.decDigits).length,1,9))]⟩) 0 (by simp) leQ ?_
  intro i hi
  by_cases hik:i<a.length
  ·obtain⟨n,hn⟩:∃n,a[i]?=some n:=⟨_,List.getElem?_eq_getElem hik⟩
   have hn2:=hb n (List.mem_of_getElem? hn)
   have hF:=Wl n (by omega)
   have hl:((a.take i).map Lib.decDigits).length≤4000000:=by rw[List.length_map,List.length_take];omega
   (repeat'((conv=>whnf);first|refine NIdx.tab (fun _=>rfl) hn ?_|refine NCall.eq hF rfl ?_|refine NApp.one Nr (Lib.decDigits n) ?_|(with_reducible refine NInt.i64 ?_)|(with_reducible refine NInt.u64 ?_)|(refine NBr.dec (fun hc hcP=> ?_) (fun hc hcP=> ?_)<;>try(exfalso;omega))));(all_goals(conv=>whnf))
   refine⟨i+1,by omega,by omega,?_⟩
   rw[H0 hn,List.map_append]
   exact leQ
  ·obtain rfl:i=a.length:=by omega
   rw[List.take_length]
   (repeat'((conv=>whnf);first|refine NCall.eq hJ Ms ?_|(refine NBr.dec (fun hc hcP=> ?_) (fun hc hcP=> ?_)<;>try(exfalso;omega))));(all_goals(conv=>whnf))
   all_goals exact NEnd.eq leQ
theorem dT {P:Program} {C:Cx} {o:Oper} {σ:AS} {t:Nat} {k k':IntKind} {m n:Int} {x y:Operand} {ats:Array TypeId} (v:Int) (hv:(if n<m then n else m)=v) (ho:o.op= .call {callee:= .builtin .min,args:=#[x,y],argTypes:=ats}) (hd:o.dst=some t) (ht:t<C.N) (hx:σ.eval x=some (.d (.v (.int k m)))) (hy:σ.eval y=some (.d (.v (.int k' n)))):Aw P C o σ (σ.put t (.d (.v (.int k v)))):=
 Al hd ht fun a w bm gt fp hg=>by
  have h1:=(hg.eval hx).val
  have h2:=(hg.eval hy).val
  refine⟨_,?_,.d (.v _)⟩
  simp only[execOp,ho,resolve,invoke,builtin,Sem.run_bind,Sem.run_pure,Result.andThen_ok,List.map_toArray,List.map_cons,List.map_nil,h1,h2]
  subst hv
  simp[go_sem]
  omega
theorem mA (x:UInt8):IntKind.u8.wrap ((BitVec.ofInt IntKind.u8.bits (x.toNat:Int)&&&BitVec.ofInt IntKind.u8.bits 127).toNat:Int)=((x.toNat%128:Nat):Int):=by
 have h:∀x:Fin 256,IntKind.u8.wrap ((BitVec.ofInt IntKind.u8.bits (x.1:Int)&&&BitVec.ofInt IntKind.u8.bits 127).toNat:Int)=((x.1%128:Nat):Int):=by decide+kernel
 exact h ⟨x.toNat,x.toNat_lt⟩
theorem mB (x:UInt8):IntKind.u8.wrap ((BitVec.ofInt IntKind.u8.bits (x.toNat:Int)&&&BitVec.ofInt IntKind.u8.bits 128).toNat:Int)=((x.toNat/128*128:Nat):Int):=by
 have h:∀x:Fin 256,IntKind.u8.wrap ((BitVec.ofInt IntKind.u8.bits (x.1:Int)&&&BitVec.ofInt IntKind.u8.bits 128).toNat:Int)=((x.1/128*128:Nat):Int):=by decide+kernel
 exact h ⟨x.toNat,x.toNat_lt⟩
theorem nZ (n:Nat) (hn:n≤4294967295):IntKind.u64.wrap ((n:Int)*2^(min (Int.toNat 7) IntKind.u64.bits))=((n*128:Nat):Int):=by
 have:(2:Int)^(min (Int.toNat 7) IntKind.u64.bits)=128:=by decide
 rw[this,IntWalk.u64_in _ (by omega)];omega
theorem or7 (n m:Nat) (hn:n≤4294967295) (hm:m<128):IntKind.u64.wrap ((BitVec.ofInt IntKind.u64.bits ((n*128:Nat):Int)|||BitVec.ofInt IntKind.u64.bits (m:Int)).toNat:Int)=((n*128+m:Nat):Int):=by
 rw[BitVec.toNat_or,BitVec.ofInt_natCast,BitVec.ofInt_natCast,BitVec.toNat_ofNat,BitVec.toNat_ofNat]
 have hb64:2^IntKind.u64.bits=18446744073709551616:=by decide
 rw[hb64,Nat.mod_eq_of_lt (by omega),Nat.mod_eq_of_lt (by omega)]
 have:n*128|||m=n*128+m:=by
  have h:=Nat.shiftLeft_add_eq_or_of_lt (i:=7) (b:=m) (by omega) n
  rw[Nat.shiftLeft_eq] at h
  exact h.symm
 rw[this,IntWalk.u64_in _ (by omega)]
def Jk (ns:List Nat):Option (List Nat)→Option (List Nat)
 |some l=>some (ns++l)
 |none=>none
theorem U2 (ns:List Nat) (n:Nat) (o:Option (List Nat)):Jk ns (match o with|some l=>some (n::l)|none=>none)=Jk (ns++[n]) o:=by
 cases o with
 |none=>rfl
 |some l=>show some (ns++n::l)=some (ns++[n]++l);simp
theorem dU {α:Type} {l:List α} {i:Nat} {x:α} (h:l[i]?=some x):l.drop i=x::l.drop (i+1):=by
 obtain⟨h1,h2⟩:=List.getElem?_eq_some_iff.1 h
 rw[List.drop_eq_getElem_cons h1,h2]
theorem U3 {c:List UInt8} {i:Nat} {x:UInt8} {b:Bool} {n:Nat} (hx:c[i]?=some x):A6 b n (c.drop i)=if b=false∧x=128 then none else if n*128+x.toNat%128>4294967295 then none else if x.toNat<128 then(match A6 false 0 (c.drop (i+1)) with
 |some l=>some ((n*128+x.toNat%128)::l)
 |none=>none) else A6 true (n*128+x.toNat%128) (c.drop (i+1)):=by
 rw[dU hx,A6]<;>rfl
def Pw (c:List UInt8):AV:= .tup [sx (odT c),iv (odC c)]
theorem H1 {c:List UInt8} (h:A6 false 0 c=none∨A6 false 0 c=some []):Pw c= .tup [sx [],iv 6]:=by
 have:Rz c=none:=by unfold Rz;rcases h with h|h<;>rw[h]
 unfold Pw odT odC
 rw[this];rfl
theorem Zd {c:List UInt8} {n:Nat} {r:List Nat} (h:A6 false 0 c=some (n::r)):Pw c= .tup [sx (Cl (Cw (n::r))),iv 0]:=by
 have:Rz c=some (Cw (n::r)):=by unfold Rz;rw[h]
 unfold Pw odT odC
 rw[this];rfl
structure DSt where
 i:Nat
 ns:List Nat
 b:Bool
 n:Nat
theorem iQ {p:Prop} (h:p:=by first|rfl|(simp only[AV.gives,AV.ren,AV.give,D.un,D.uns,Ai,An,List.nil_append,List.append_nil,List.cons_append,Wm,R5,Wn,Ey,Wo,Wp,Wq];first|done|rfl)):p:=h
theorem Iq (c:List UInt8) (hc:c.length≤900000):Ab Tryz.prog 117 [.d (Ac false c)] (fun r=>r=Pw c):=by
 refine acQ 87 Tryz.func117 rfl rfl fun _ _ _=> ?_
 (all_goals(conv=>whnf))
 refine NLoop.goA [.s 4 1 124] (fun p:DSt=>p.i≤c.length∧p.ns.length≤p.i∧p.n≤4294967295∧(p.b=false→p.n=0)∧A6 false 0 c=Jk p.ns (A6 p.b p.n (c.drop p.i))) (fun p=>c.length-p.i) (fun p=>⟨[(4,Ey 4 1 124 Zc p.ns),(5,bv p.b),(6,uv p.n),(15,.d (Ac false c)),(16,iv c.length),(17,iv p.i)],[],[(4,(p.ns.length,1,124))]⟩) ⟨0,[],false,0⟩ ⟨by simp,by simp,by simp,by simp,(by show A6 false 0 c=Jk [] (A6 false 0 c);cases A6 false 0 c<;>rfl)⟩ leQ ?_
 rintro⟨i,ns,b,n⟩ ⟨hi,hnl,hn,hb0,he⟩
 simp only at hi hnl hn hb0 he
 by_cases hik:i<c.length
 ·obtain⟨x,hx⟩:∃x,c[i]?=some x:=⟨_,List.getElem?_eq_getElem hik⟩
  have hxl:=x.toNat_lt
  rw[U3 hx] at he
  have hb1:(!b&&((x.toNat:Int)==128))=decide (b=false∧x=128):=by
   have:((x.toNat:Int)==128)=decide (x=128):=by
    rw[Bool.eq_iff_iff,beq_iff_eq,decide_eq_true_eq,←UInt8.toNat_inj]
    show _↔x.toNat=128
    omega
   rw[this];cases b<;>simp
  by_cases c1:b=false∧x=128
  ·rw[if_pos c1] at he
   rw[H1 (.inl he)]
   obtain⟨rfl,rfl⟩:=c1
   have g:(((128:UInt8).toNat:Int)==128)=true:=by decide
   (repeat'((conv=>whnf);first|refine NBr.yes ?_|refine NIdx.bytes hx ?_|(refine NBr.mk (fun hc=> ?_) (fun hc=> ?_)<;>(have hcP:=hc;(try simp only[decide_eq_true_eq,decide_eq_false_iff_not] at hcP)<;>first|(exfalso;omega)|skip))));(all_goals(conv=>whnf))
   all_goals exact NEnd.eq leQ
  ·rw[if_neg c1] at he
   have e1:=mA x
   have e2:=mB x
   have e3:=nZ n hn
   have e4:=or7 n (x.toNat%128) hn (by omega)
   by_cases c2:n*128+x.toNat%128>4294967295
   ·rw[if_pos c2] at he
    rw[H1 (.inl he)]
    have g2:decide (((n*128+x.toNat%128:Nat):Int)>4294967295)=true:=decide_eq_true (by omega)
    cases b
    ·have g:((x.toNat:Int)==128)=false:=by
      rw[Bool.not_false,Bool.true_and] at hb1
      rw[hb1,decide_eq_false c1]
     (repeat'((conv=>whnf);first|refine NBr.yes ?_|refine NBr.pos asP ?_|refine NBr.neg asP ?_|refine NIdx.bytes hx ?_|refine NInt.as (((n*128:Nat):Int)) (e3) ?_|refine NInt.as (((x.toNat%128:Nat):Int)) (e1) ?_|refine NInt.as (((n*128+x.toNat%128:Nat):Int)) (e4) ?_|refine NInt.as (((x.toNat/128*128:Nat):Int)) (e2) ?_|(with_reducible refine NInt.u64 ?_)|refine NFact.go (by first|decide|omega|(simp only[List.length_cons,List.length_nil];omega)) ?_|(refine NBr.mk (fun hc=> ?_) (fun hc=> ?_)<;>(have hcP:=hc;(try simp only[decide_eq_true_eq,decide_eq_false_iff_not] at hcP)<;>first|(exfalso;omega)|skip))));(all_goals(conv=>whnf))
     all_goals exact NEnd.eq leQ
    ·(repeat'((conv=>whnf);first|refine NBr.no ?_|refine NBr.pos asP ?_|refine NIdx.bytes hx ?_|refine NInt.as (((n*128:Nat):Int)) (e3) ?_|refine NInt.as (((x.toNat%128:Nat):Int)) (e1) ?_|refine NInt.as (((n*128+x.toNat%128:Nat):Int)) (e4) ?_|refine NInt.as (((x.toNat/128*128:Nat):Int)) (e2) ?_|(with_reducible refine NInt.u64 ?_)|refine NFact.go (by first|decide|omega|(simp only[List.length_cons,List.length_nil];omega)) ?_|(refine NBr.mk (fun hc=> ?_) (fun hc=> ?_)<;>(have hcP:=hc;(try simp only[decide_eq_true_eq,decide_eq_false_iff_not] at hcP)<;>first|(exfalso;omega)|skip))));(all_goals(conv=>whnf))
     all_goals exact NEnd.eq leQ
   ·rw[if_neg c2] at he
    have g2:decide (((n*128+x.toNat%128:Nat):Int)>4294967295)=false:=decide_eq_false (by omega)
    by_cases c3:x.toNat<128
    ·rw[if_pos c3,U2] at he
     have g3:(((x.toNat/128*128:Nat):Int) !=0)=false:=by rw[bne_eq_false_iff_eq];omega
     cases b
     ·have g:((x.toNat:Int)==128)=false:=by
       rw[Bool.not_false,Bool.true_and] at hb1
       rw[hb1,decide_eq_false c1]
      (repeat'((conv=>whnf);first|refine NBr.yes ?_|refine NBr.neg asP ?_|refine NIdx.bytes hx ?_|refine NInt.as (((n*128:Nat):Int)) (e3) ?_|refine NInt.as (((x.toNat%128:Nat):Int)) (e1) ?_|refine NInt.as (((n*128+x.toNat%128:Nat):Int)) (e4) ?_|refine NInt.as (((x.toNat/128*128:Nat):Int)) (e2) ?_|refine NApp.one Zc (n*128+x.toNat%128) ?_|(with_reducible refine NInt.i64 ?_)|(with_reducible refine NInt.u64 ?_)|refine NFact.go (by first|decide|omega|(simp only[List.length_cons,List.length_nil];omega)) ?_|(refine NBr.mk (fun hc=> ?_) (fun hc=> ?_)<;>(have hcP:=hc;(try simp only[decide_eq_true_eq,decide_eq_false_iff_not,bne_iff_ne,bne_eq_false_iff_eq,ne_eq,Bool.not_eq_true',Bool.not_eq_false'] at hcP)<;>first|(exfalso;omega)|skip))));(all_goals(conv=>whnf))
      refine⟨⟨i+1,ns++[n*128+x.toNat%128],(((x.toNat/128*128:Nat):Int) !=0),0⟩,⟨by show i+1≤_;omega,by simp;omega,by simp,fun _=>rfl,?_⟩,by show c.length-(i+1)<c.length-i;omega,?_⟩
      ·show A6 false 0 c=Jk _ (A6 (((x.toNat/128*128:Nat):Int) !=0) 0 (c.drop (i+1)))
       rw[g3];exact he
      ·exact leQ
     ·(repeat'((conv=>whnf);first|refine NBr.no ?_|refine NBr.neg asP ?_|refine NIdx.bytes hx ?_|refine NInt.as (((n*128:Nat):Int)) (e3) ?_|refine NInt.as (((x.toNat%128:Nat):Int)) (e1) ?_|refine NInt.as (((n*128+x.toNat%128:Nat):Int)) (e4) ?_|refine NInt.as (((x.toNat/128*128:Nat):Int)) (e2) ?_|refine NApp.one Zc (n*128+x.toNat%128) ?_|(with_reducible refine NInt.i64 ?_)|(with_reducible refine NInt.u64 ?_)|refine NFact.go (by first|decide|omega|(simp only[List.length_cons,List.length_nil];omega)) ?_|(refine NBr.mk (fun hc=> ?_) (fun hc=> ?_)<;>(have hcP:=hc;(try simp only[decide_eq_true_eq,decide_eq_false_iff_not,bne_iff_ne,bne_eq_false_iff_eq,ne_eq,Bool.not_eq_true',Bool.not_eq_false'] at hcP)<;>first|(exfalso;omega)|skip))));(all_goals(conv=>whnf))
      refine⟨⟨i+1,ns++[n*128+x.toNat%128],(((x.toNat/128*128:Nat):Int) !=0),0⟩,⟨by show i+1≤_;omega,by simp;omega,by simp,fun _=>rfl,?_⟩,by show c.length-(i+1)<c.length-i;omega,?_⟩
      ·show A6 false 0 c=Jk _ (A6 (((x.toNat/128*128:Nat):Int) !=0) 0 (c.drop (i+1)))
       rw[g3];exact he
      ·exact leQ
    ·rw[if_neg c3] at he
     have g3:(((x.toNat/128*128:Nat):Int) !=0)=true:=by rw[bne_iff_ne];omega
     cases b
     ·have g:((x.toNat:Int)==128)=false:=by
       rw[Bool.not_false,Bool.true_and] at hb1
       rw[hb1,decide_eq_false c1]
      (repeat'((conv=>whnf);first|refine NBr.yes ?_|refine NBr.neg asP ?_|refine NIdx.bytes hx ?_|refine NInt.as (((n*128:Nat):Int)) (e3) ?_|refine NInt.as (((x.toNat%128:Nat):Int)) (e1) ?_|refine NInt.as (((n*128+x.toNat%128:Nat):Int)) (e4) ?_|refine NInt.as (((x.toNat/128*128:Nat):Int)) (e2) ?_|(with_reducible refine NInt.i64 ?_)|(with_reducible refine NInt.u64 ?_)|refine NFact.go (by first|decide|omega|(simp only[List.length_cons,List.length_nil];omega)) ?_|(refine NBr.mk (fun hc=> ?_) (fun hc=> ?_)<;>(have hcP:=hc;(try simp only[decide_eq_true_eq,decide_eq_false_iff_not,bne_iff_ne,bne_eq_false_iff_eq,ne_eq,Bool.not_eq_true',Bool.not_eq_false'] at hcP)<;>first|(exfalso;omega)|skip))));(all_goals(conv=>whnf))
      refine⟨⟨i+1,ns,(((x.toNat/128*128:Nat):Int) !=0),n*128+x.toNat%128⟩,⟨by show i+1≤_;omega,by show ns.length≤i+1;omega,by show n*128+x.toNat%128≤_;omega,fun h=> ?_,?_⟩,by show c.length-(i+1)<c.length-i;omega,?_⟩
      ·rw[show(((x.toNat/128*128:Nat):Int) !=0)=false from h] at g3;cases g3
      ·show A6 false 0 c=Jk _ (A6 (((x.toNat/128*128:Nat):Int) !=0) _ (c.drop (i+1)))
       rw[g3];exact he
      ·exact leQ
     ·(repeat'((conv=>whnf);first|refine NBr.no ?_|refine NBr.neg asP ?_|refine NIdx.bytes hx ?_|refine NInt.as (((n*128:Nat):Int)) (e3) ?_|refine NInt.as (((x.toNat%128:Nat):Int)) (e1) ?_|refine NInt.as (((n*128+x.toNat%128:Nat):Int)) (e4) ?_|refine NInt.as (((x.toNat/128*128:Nat):Int)) (e2) ?_|(with_reducible refine NInt.i64 ?_)|(with_reducible refine NInt.u64 ?_)|refine NFact.go (by first|decide|omega|(simp only[List.length_cons,List.length_nil];omega)) ?_|(refine NBr.mk (fun hc=> ?_) (fun hc=> ?_)<;>(have hcP:=hc;(try simp only[decide_eq_true_eq,decide_eq_false_iff_not,bne_iff_ne,bne_eq_false_iff_eq,ne_eq,Bool.not_eq_true',Bool.not_eq_false'] at hcP)<;>first|(exfalso;omega)|skip))));(all_goals(conv=>whnf))
      refine⟨⟨i+1,ns,(((x.toNat/128*128:Nat):Int) !=0),n*128+x.toNat%128⟩,⟨by show i+1≤_;omega,by show ns.length≤i+1;omega,by show n*128+x.toNat%128≤_;omega,fun h=> ?_,?_⟩,by show c.length-(i+1)<c.length-i;omega,?_⟩
      ·rw[show(((x.toNat/128*128:Nat):Int) !=0)=false from h] at g3;cases g3
      ·show A6 false 0 c=Jk _ (A6 (((x.toNat/128*128:Nat):Int) !=0) _ (c.drop (i+1)))
       rw[g3];exact he
      ·exact leQ
 ·obtain rfl:i=c.length:=by omega
  rw[List.drop_length] at he
  cases b
  ·rw[A6,if_neg (by simp)] at he
   simp only[Jk,List.append_nil] at he
   cases ns with
   |nil=>
    rw[H1 (.inr he)]
    (repeat'((conv=>whnf);first|refine NBr.yes ?_|refine NBr.no ?_|(refine NBr.mk (fun hc=> ?_) (fun hc=> ?_)<;>(have hcP:=hc;(try simp only[decide_eq_true_eq,decide_eq_false_iff_not] at hcP)<;>first|(exfalso;omega)|skip))));(all_goals(conv=>whnf))
    all_goals exact NEnd.eq leQ
   |cons n0 r=>
    rw[Zd he]
    obtain⟨-,k2⟩:=Io c false 0 _ (by omega) (by simp) (fun _=>rfl) he
    obtain⟨k3,k4,k5⟩:=Ps (l:=n0::r) (by simp) k2
    have hn0:=k2 n0 (by simp)
    rw[List.length_cons] at hnl
    have hT:=R8 (Cw (n0::r)) k4 (by rw[Cw];simp only[List.length_cons];omega)
    rw[if_pos k3] at hT
    have h0:(n0::r)[0]?=some n0:=rfl
    have hz:((((n0::r).length:Nat):Int)==0)=false:=by rw[List.length_cons,beq_eq_false_iff_ne];omega
    have hm:(if(2:Int)<((n0/40:Nat):Int) then(2:Int) else((n0/40:Nat):Int))=((min (n0/40) 2:Nat):Int):=by
     split<;>omega
    have w1:IntKind.u32.wrap ((min (n0/40) 2:Nat):Int)=((min (n0/40) 2:Nat):Int):=IntWalk.u32_in _ (by omega)
    generalize hq:min (n0/40) 2=q at hT hm w1
    have hq2:q≤2∧q*40≤n0:=by omega
    have hul:Cw (n0::r)=q::(n0-40*q)::r:=by rw[Cw,hq]
    rw[hul] at hT⊢
    have hdr:((n0::r).drop 1).take ((n0::r).length-1)=r:=by simp
    have ar:∀m:Int,m=((n0-40*q:Nat):Int)→IntKind.u64.wrap m=((n0-40*q:Nat):Int):=fun m hm=>by rw[hm,IntWalk.u64_in _ (by omega)]
    (repeat'((conv=>whnf);first|refine NBr.no ?_|refine NIdx.tab (fun _=>rfl) h0 ?_|refine NSl.tab (fun _=>rfl) 1 (n0::r).length r hdr ?_|refine NStep.go (dT ((q:Nat):Int) hm rfl rfl (ltN rfl) rfl rfl) ?_|refine NInt.as (((n0-40*q:Nat):Int)) (ar _ (by omega)) ?_|(with_reducible refine NInt.u32 ?_)|(with_reducible refine NInt.u64 ?_)|(with_reducible refine NInt.quoL ?_)|refine NFact.go (by first|decide|omega|(simp only[List.length_cons,List.length_nil];omega)) ?_|(refine NBr.mk (fun hc=> ?_) (fun hc=> ?_)<;>(have hcP:=hc;(try simp only[decide_eq_true_eq,decide_eq_false_iff_not] at hcP)<;>first|(exfalso;omega)|skip))));(all_goals(conv=>whnf))
    refine NLoop.go (fun i:Nat=>i≤r.length) (fun i=>r.length-i) (fun i=>⟨[(10,Ey 65 1 125 U0 (q::(n0-40*q)::r.take i)),(67,.d (lZ true r)),(68,iv r.length),(69,iv i)],[],[(65,((q::(n0-40*q)::r.take i).length,1,125))]⟩) 0 (by simp) leQ ?_
    intro i hi
    by_cases hik:i<r.length
    ·obtain⟨m,hm⟩:∃n,r[i]?=some n:=⟨_,List.getElem?_eq_getElem hik⟩
     have hmb:=k2 m (by simp[List.mem_of_getElem? hm])
     (repeat'((conv=>whnf);first|refine NIdx.tab (fun _=>rfl) hm ?_|refine NApp.one U0 m ?_|(with_reducible refine NInt.i64 ?_)|(with_reducible refine NInt.u32 ?_)|(refine NBr.mk (fun hc=> ?_) (fun hc=> ?_)<;>(have hcP:=hc;(try simp only[decide_eq_true_eq,decide_eq_false_iff_not] at hcP)<;>first|(exfalso;omega)|skip))));(all_goals(conv=>whnf))
     refine⟨i+1,by omega,by omega,?_⟩
     rw[H0 hm]
     exact leQ
    ·obtain rfl:i=r.length:=by omega
     rw[List.take_length]
     (repeat'((conv=>whnf);first|refine NBr.no ?_|refine NCall.eq hT iQ ?_|(refine NBr.mk (fun hc=> ?_) (fun hc=> ?_)<;>(have hcP:=hc;(try simp only[decide_eq_true_eq,decide_eq_false_iff_not] at hcP)<;>first|(exfalso;omega)|skip))));(all_goals(conv=>whnf))
     all_goals exact NEnd.eq leQ
  ·rw[A6,if_pos rfl] at he
   rw[H1 (.inl he)]
   (repeat'((conv=>whnf);first|refine NBr.yes ?_|(refine NBr.mk (fun hc=> ?_) (fun hc=> ?_)<;>(have hcP:=hc;(try simp only[decide_eq_true_eq,decide_eq_false_iff_not] at hcP)<;>first|(exfalso;omega)|skip))));(all_goals(conv=>whnf))
   all_goals exact NEnd.eq leQ
theorem Jl (l:Bool):∀(k n:Nat),n<128^(k+1)→(Bn l n).length≤k+1:=by
 intro k
 induction k generalizing l with
 |zero=>intro n h;rw[B8 l (by simpa using h)];simp
 |succ k ih=>
  intro n h
  by_cases h2:n<128
  ·rw[B8 l h2];simp
  ·have:=ih false (n/128) (by rw[Nat.pow_succ] at h;omega)
   rw[Ev l h2,List.length_append,List.length_singleton];omega
theorem Ws (n:Nat) (hn:n≤4294967295):IntKind.u32.wrap ((BitVec.ofInt IntKind.u32.bits (n:Int)&&&BitVec.ofInt IntKind.u32.bits 127).toNat:Int)=((n%128:Nat):Int):=by
 rw[show(127:Int)=((127:Nat):Int) from rfl,BitVec.ofInt_natCast,BitVec.ofInt_natCast,BitVec.toNat_and,BitVec.toNat_ofNat,BitVec.toNat_ofNat]
 have hb:2^IntKind.u32.bits=4294967296:=by decide
 rw[hb,Nat.mod_eq_of_lt (by omega),Nat.mod_eq_of_lt (by omega)]
 have:=Nat.and_two_pow_sub_one_eq_mod n 7
 rw[show 2^7-1=127 from rfl] at this
 rw[this,IntWalk.u32_in _ (by omega)]
theorem mC (m:Nat) (hm:m<128):IntKind.u32.wrap ((BitVec.ofInt IntKind.u32.bits (m:Int)|||BitVec.ofInt IntKind.u32.bits 128).toNat:Int)=((m+128:Nat):Int):=by
 have h:∀x:Fin 128,IntKind.u32.wrap ((BitVec.ofInt IntKind.u32.bits (x.1:Int)|||BitVec.ofInt IntKind.u32.bits 128).toNat:Int)=((x.1+128:Nat):Int):=by decide+kernel
 exact h ⟨m,hm⟩
theorem kA (n:Nat):(n:Int).fdiv (2^(min (Int.toNat 7) IntKind.u32.bits))=((n/128:Nat):Int):=iC (k:=7) n rfl
def hiB (q:Nat):List UInt8:=if q=0 then [] else Bn false q
theorem Wt (l:Bool) (n:Nat):Bn l n=hiB (n/128)++[UInt8.ofNat (n%128+if l then 0 else 128)]:=by
 unfold hiB
 by_cases h:n<128
 ·rw[B8 l h,if_pos (show n/128=0 by omega)];rfl
 ·rw[Ev l h,if_neg (show¬n/128=0 by omega)]
theorem Wu (n:Nat) (hn:n≤4294967295) {c:Code} (hc:Tryz.f105.body=some c) (vs:List Value) (hv:R2 [wv n,.ptr 6 0] vs) (W:World) (fp0 z0:Nat→Nat→Prop):
 Wk Tryz.prog ⟨W,fp0,26,fun _=>none,z0⟩ tab (Mi 3 c) (fun tm bx tk=>lY vs [1] 3 (Bn true n).length 1 5 (Ah (Bn true n)) ⟨tm,bx,tk⟩) (Ml 0 vs) [] []:=by
 have hc':=Option.some.inj hc
 match vs,hv with
 |[v0,v1],hv=>
  obtain⟨rfl,-⟩:=hv
  subst hc'
  have hL:=Jl true 4 n (by omega)
  have e1:=Ws n hn
  have e2:=kA n
  (repeat'((conv=>whnf);first|refine NInt.as (((n%128:Nat):Int)) (e1) ?_|refine NInt.as (((n/128:Nat):Int)) (e2) ?_|(with_reducible refine NInt.oct ?_)|refine NFact.go (by first|decide|omega|(simp only[List.length_cons,List.length_nil];omega)) ?_));(all_goals(conv=>whnf))
  refine NLoop.go (fun p:Nat×List UInt8=>p.1≤4294967295∧0<p.2.length∧hiB p.1++p.2.reverse=Bn true n) (fun p=>p.1) (fun p=>⟨[(0,wv p.1),(1,.d (.v v1)),(3,Cd 7 5 p.2)],[],[(7,(p.2.length,1,5))]⟩) (n/128,[UInt8.ofNat (n%128)]) ⟨by show n/128≤_;omega,by simp,(by rw[Wt];rfl)⟩ leQ ?_
  rintro⟨q,acc⟩ ⟨hq,ha,he⟩
  simp only[] at hq ha he
  have hal:acc.length≤5:=by
   have:=congrArg List.length he
   simp only[List.length_append,List.length_reverse] at this
   omega
  by_cases h0:q=0
  ·subst h0
   rw[hiB,if_pos rfl,List.nil_append] at he
   (repeat'((conv=>whnf);refine NBr.no ?_));(all_goals(conv=>whnf))
   refine NStep.go (Rr (l:=acc) (tm':=[(1,.d (.v v1)),(3,Cd 7 5 acc.reverse)]) Tryz.laysRev (F8 Tryz.func106 (by kernel_rfl) rfl) rfl rfl (ltN rfl) rfl rfl ha (by omega) (.v rfl (.own rfl .nil)) rfl) ?_
   (all_goals(conv=>whnf))
   rw[he]
   exact⟨7,rfl,rfl,⟨v1,rfl,rfl⟩,trivial⟩
  ·have hq2:hiB q=hiB (q/128)++[UInt8.ofNat (q%128+128)]:=by
    conv=>lhs;rw[hiB,if_neg h0,Wt]
    rfl
   have e3:=Ws q hq
   have e4:=mC (q%128) (by omega)
   have e5:=kA q
   rw[hq2] at he
   (repeat'((conv=>whnf);first|refine NInt.as (((q%128:Nat):Int)) (e3) ?_|refine NInt.as (((q%128+128:Nat):Int)) (e4) ?_|refine NInt.as (((q/128:Nat):Int)) (e5) ?_|(with_reducible refine NInt.oct ?_)|refine NApp.byte (_) ?_|refine NFact.go (by first|decide|omega|(simp only[List.length_cons,List.length_nil];omega)) ?_|(refine NBr.dec (fun hc hcP=> ?_) (fun hc hcP=> ?_)<;>try(exfalso;omega))));(all_goals(conv=>whnf))
   refine⟨(q/128,acc++[UInt8.ofNat (q%128+128)]),⟨by show q/128≤_;omega,by simp,?_⟩,by show q/128<q;omega,?_⟩
   ·show hiB (q/128)++(acc++[UInt8.ofNat (q%128+128)]).reverse=_
    rw[←he];simp
   ·exact leQ
theorem Ze {s:List UInt8} {a:List Nat} (h:De s=some a):a.length≤s.length+1:=by
 unfold De at h
 split at h
 ·rename_i a' h1
  split at h
  ·cases h
   rw[Hz h1];exact Ji s
  ·cases h
 ·cases h
theorem Ky:∀(l:List Nat),(∀n∈l,n≤4294967295)→(l.flatMap (Bn true)).length≤5*l.length
 |[],_=>by simp
 |n::r,h=>by
  have h1:=Jl true 4 n (by have:=h n (by simp);omega)
  have h2:=Ky r (fun m hm=>h m (by simp[hm]))
  rw[List.flatMap_cons,List.length_append,List.length_cons];omega
theorem R9 (s:List UInt8) (hs:s.length≤4000000) (h:De s=none):Ab Tryz.prog 66 [sx s] (fun r=>r= .tup [.d (Ac true []),iv 8]):=by
 have hA:=G8 s hs
 unfold R7 at hA
 rw[h] at hA
 refine acQ 40 Tryz.func66 rfl rfl fun _ _ _=> ?_
 (repeat'((conv=>whnf);first|refine NBr.yes ?_|refine NCall.eq hA rfl ?_));(all_goals(conv=>whnf))
 all_goals exact NEnd.eq leQ
theorem Sa (s:List UInt8) (hs:s.length≤4000000) {a:List Nat} (h:De s=some a):Ab Tryz.prog 66 [sx s] (fun r=>r= .tup [.d (Ac true (Uv a)),iv 0]):=by
 have hA:=G8 s hs
 unfold R7 at hA
 rw[h] at hA
 obtain⟨k1,k2,k3⟩:=Gf h
 obtain⟨x,y,r,rfl,x2,xy,y2⟩:=Ei k1
 have h0:(x::y::r)[0]?=some x:=rfl
 have h1:(x::y::r)[1]?=some y:=rfl
 have hxy:40*x+y≤4294967295:=by
  by_cases hx:x<2
  ·have:=xy hx;omega
  ·omega
 refine acQ 40 Tryz.func66 rfl rfl fun _ _ _=> ?_
 have e1:∀z:Int,z=((40*x+y:Nat):Int)→IntKind.u32.wrap z=((40*x+y:Nat):Int):=fun z hz=>by rw[hz,IntWalk.u32_in _ (by omega)]
 have hdr:((x::y::r).drop 2).take ((x::y::r).length-2)=r:=by simp
 have hL:=Jl true 4 (40*x+y) (by omega)
 have hal:=Ze h
 simp only[List.length_cons] at hal
 (repeat'((conv=>whnf);first|refine NBr.no ?_|refine NCall.eq hA rfl ?_|refine NIdx.tab (fun _=>rfl) h0 ?_|refine NIdx.tab (fun _=>rfl) h1 ?_|refine NInt.as (((40*x+y:Nat):Int)) (e1 _ (by omega)) ?_|(with_reducible refine NInt.u32 ?_)|refine NFact.go ⟨by decide+kernel,by kernel_rfl⟩ ?_));(all_goals(conv=>whnf))
 refine Mm 3 3 200 (Bn true (40*x+y)).length 1 5 (Ah (Bn true (40*x+y))) [1] 100 26 #[] L8 mixed rfl rfl rfl rfl Tryz.func105 rfl (by kernel_rfl) rfl rfl rfl rfl rfl (fun vs hv W fp0 z0=>Wu (40*x+y) hxy rfl vs hv W fp0 z0) (fun gh=> ?_)
 (repeat'((conv=>whnf);first|refine NSl.tab (fun _=>rfl) 2 (x::y::r).length r hdr ?_|(with_reducible refine NApp.bytes0 ?_)));(all_goals(conv=>whnf))
 refine NLoop.go (fun i:Nat=>i≤r.length) (fun i=>r.length-i) (fun i=>⟨[(6,.ptr 6 0),(7,.cl 105 [] [.ptr 6 0]),(29,.d (U1 true r)),(30,iv r.length),(31,iv i)],[(6,[Cd 125 5 (Bn true (40*x+y)++(r.take i).flatMap (Bn true))])],[(125,((Bn true (40*x+y)++(r.take i).flatMap (Bn true)).length,1,5))]⟩) 0 (by simp) (by rw[List.take_zero,List.flatMap_nil,List.append_nil];exact leQ) ?_
 intro i hi
 by_cases hik:i<r.length
 ·obtain⟨m,hm⟩:∃n,r[i]?=some n:=⟨_,List.getElem?_eq_getElem hik⟩
  have hmb:=k2 m (by simp[List.mem_of_getElem? hm])
  have hLm:=Jl true 4 m (by omega)
  have hLf:=Ky (r.take i) (fun n hn=>k2 n (by simp[List.mem_of_mem_take hn]))
  rw[List.length_take] at hLf
  have hLa:(Bn true (40*x+y)++(r.take i).flatMap (Bn true)).length≤21000000:=by rw[List.length_append];omega
  have hsn:Bn true (40*x+y)++(r.take (i+1)).flatMap (Bn true)=Bn true (40*x+y)++(r.take i).flatMap (Bn true)++Bn true m:=by
   rw[H0 hm,List.flatMap_append,List.append_assoc];simp
  (repeat'((conv=>whnf);first|refine NIdx.tab (fun _=>rfl) hm ?_|(refine NBr.dec (fun hc hcP=> ?_) (fun hc hcP=> ?_)<;>try(exfalso;omega))));(all_goals(conv=>whnf))
  refine Mm 3 3 200 (Bn true m).length 1 5 (Ah (Bn true m)) [1] 100 26 #[] L8 mixed rfl rfl rfl rfl Tryz.func105 rfl (by kernel_rfl) rfl rfl rfl rfl rfl (fun vs hv W fp0 z0=>Wu m hmb rfl vs hv W fp0 z0) (fun gh=> ?_)
  (repeat'((conv=>whnf);first|(with_reducible refine NInt.i64 ?_)|(with_reducible refine NApp.bytes ?_)));(all_goals(conv=>whnf))
  refine⟨i+1,by omega,by omega,?_⟩
  rw[hsn]
  exact leQ
 ·obtain rfl:i=r.length:=by omega
  rw[List.take_length]
  (repeat'((conv=>whnf);(refine NBr.dec (fun hc hcP=> ?_) (fun hc hcP=> ?_)<;>try(exfalso;omega))));(all_goals(conv=>whnf))
  all_goals exact NEnd.eq leQ
  all_goals rfl
theorem Mt (s:List UInt8) (hs:s.length≤4000000):Ab Tryz.prog 66 [sx s] (fun r=>r= .tup [.d (Ac true (Bj s)),iv (Y9 s)]):=by
 unfold Bj Y9
 cases h:De s with
 |some a=>exact Sa s hs h
 |none=>exact R9 s hs h
theorem Px {n:Nat} (h:¬n<10):(Lib.decDigits n).length=(Lib.decDigits (n/10)).length+1:=by
 rw[Lib.decDigits,dif_neg h];simp
theorem iR (n:Nat):1≤(Lib.decDigits n).length:=by
 rw[Lib.decDigits];split<;>simp
theorem Sb:∀(n m:Nat),m≤n→(Lib.decDigits m).length≤(Lib.decDigits n).length:=by
 intro n
 induction n using Nat.strongRecOn with
 |_ n ih=>
  intro m h
  by_cases h1:m<10
  ·rw[Lib.decDigits_one h1];exact iR n
  ·have:=ih (n/10) (by omega) (m/10) (by omega)
   rw[Px h1,Px (n:=n) (by omega)];omega
theorem Py (n:Nat):(Lib.decDigits n).length≤(Lib.decDigits (n/10)).length+1:=by
 by_cases h:n<10
 ·rw[Lib.decDigits_one h];simp
 ·rw[Px h];omega
theorem Mv:∀(n:Nat) (l:Bool),(Lib.decDigits n).length≤3*(Bn l n).length:=by
 intro n
 induction n using Nat.strongRecOn with
 |_ n ih=>
  intro l
  have h3:=Py n
  have h4:=Py (n/10)
  have h5:=Py (n/10/10)
  by_cases h:n<128
  ·rw[B8 l h,List.length_singleton]
   have:(Lib.decDigits (n/10/10)).length=1:=by rw[Lib.decDigits_one (by omega)];simp
   omega
  ·have h1:=ih (n/128) (by omega) false
   have h2:=Sb (n/128) (n/10/10/10) (by omega)
   rw[Ev l h,List.length_append,List.length_singleton];omega
theorem Sc:∀r:List Nat,(Cl r).length≤4*(r.flatMap (Bn true)).length
 |[]=>by simp[Cl]
 |[n]=>by have:=Mv n true;simp only[Cl,List.flatMap_cons,List.flatMap_nil,List.append_nil];omega
 |n::m::r=>by
  have h1:=Mv n true
  have h2:=Sc (m::r)
  have h3:1≤(Bn true n).length:=by
   cases h:Bn true n with
   |nil=>exact absurd h (iN _ _)
   |cons _ _=>simp
  rw[List.flatMap_cons,Cl]
  simp only[List.length_append,List.length_cons] at h2⊢
  omega
theorem Mw {s:List UInt8} (h:Ff s=true):s.length≤4*(Bj s).length+4:=by
 unfold Ff at h
 unfold Bj
 cases ha:De s with
 |none=>rw[ha] at h;cases h
 |some a=>
  obtain⟨k1,k2,k3⟩:=Gf ha
  obtain⟨x,y,r,rfl,x2,-⟩:=Ei k1
  rw[←k3]
  have hx:(Lib.decDigits x).length=1:=by rw[Lib.decDigits_one (by omega)];simp
  have hy:=Sb (40*x+y) y (by omega)
  have hb:=Mv (40*x+y) true
  have hr:=Sc r
  show _≤4*(Bn true (40*x+y)++r.flatMap (Bn true)).length+4
  rw[Cl,List.length_append,List.length_append,List.length_cons]
  cases r with
  |nil=>rw[Cl];simp only[List.flatMap_nil,List.length_nil];omega
  |cons z q=>
   rw[Cl,List.length_append,List.length_cons]
   omega
theorem Oh (l:Bool):∀(k n:Nat),n<128^(k+1)→(Bn l n).length≤k+1:=by
 intro k
 induction k generalizing l with
 |zero=>intro n h;rw[B8 l (by simpa using h)];simp
 |succ k ih=>
  intro n h
  by_cases h2:n<128
  ·rw[B8 l h2];simp
  ·have:=ih false (n/128) (by rw[Nat.pow_succ] at h;omega)
   rw[Ev l h2,List.length_append,List.length_singleton];omega
theorem Jm:∀(l:List Nat),(∀n∈l,n≤4294967295)→(l.flatMap (Bn true)).length≤5*l.length
 |[],_=>by simp
 |n::r,h=>by
  have h1:=Oh true 4 n (by have:=h n (by simp);omega)
  have h2:=Jm r (fun m hm=>h m (by simp[hm]))
  rw[List.flatMap_cons,List.length_append,List.length_cons];omega
theorem U4 {s:List UInt8} {a:List Nat} (h:De s=some a):a.length≤s.length+1:=by
 unfold De at h
 split at h
 ·rename_i a' h1
  split at h
  ·cases h
   rw[Hz h1];exact Ji s
  ·cases h
 ·cases h
theorem G9 (f:Bool) (g:Bool) (a b:List UInt8) (_:a.length≤1000000000) (_:b.length≤1000000000):Ab Tryz.prog 18 [.d (Ac f a),.d (Ac g b)] (fun r=>r=bv (a==b)):=by
 refine acQ 10 Tryz.func18 rfl rfl fun _ _ _=> ?_
 (repeat'((conv=>whnf);(with_reducible refine NStr.go ?_)));(all_goals(conv=>whnf))
 all_goals exact NEnd.eq leQ
inductive S where
 |mk (at' stop c n:Nat) (k:Bool) (b:List UInt8) (ks:List S)
def S.stop:S→Nat
 | .mk _ stop _ _ _ _ _=>stop
mutual
def Wv (t:Bool):S→List D
 | .mk _ _ c n k b ks=>[.v (.int .i64 c),.v (.int .i64 n),.v (.bool k),Ac t b,.sl t ks.length 5 (Fg t ks)]
def Fg (t:Bool):List S→List D
 |[]=>[]
 |s::r=>Wv t s++Fg t r
end
mutual
def Ww (t:Bool):S→List D
 | .mk a e c n k b ks=>[.v (.int .i64 a),.v (.int .i64 e),.v (.int .i64 c),.v (.int .i64 n),.v (.bool k),Ac t b,.sl t ks.length 5 (Fg t ks),.sl t ks.length 8 (Ha t ks)]
def Ha (t:Bool):List S→List D
 |[]=>[]
 |s::r=>Ww t s++Ha t r
end
theorem Zf (t:Bool) (l:List S):Fg t l=l.flatMap (Wv t):=by
 induction l with
 |nil=>rw[Fg];rfl
 |cons s r ih=>rw[Fg,ih,List.flatMap_cons]
theorem Zg (t:Bool) (l:List S):Ha t l=l.flatMap (Ww t):=by
 induction l with
 |nil=>rw[Ha];rfl
 |cons s r ih=>rw[Ha,ih,List.flatMap_cons]
structure SR where
 l:List S
 code:Nat
 off:Nat
def SR.bad (code off:Nat):SR:=⟨[],code,off⟩
def Mx (x:S) (r:SR):SR:=if r.code=0 then⟨x::r.l,0,0⟩ else⟨[],r.code,r.off⟩
theorem Jn {x:S} {r:SR} (h:r.code=0):Mx x r=⟨x::r.l,0,0⟩:=if_pos h
theorem H2 {x:S} {r:SR} (h:r.code≠0):Mx x r=⟨[],r.code,r.off⟩:=if_neg h
def Dj (rd:Nat→SR) (en:Nat):Nat→Nat→SR
 |0,_=>⟨[],0,0⟩
 |f+1,at'=>if at'<en then
   match rd at' with
   |⟨s::_,0,_⟩=>Mx s (Dj rd en f s.stop)
   |r=>⟨[],r.code,r.off⟩
  else⟨[],0,0⟩
theorem Fu {rd:Nat→SR} {en f at':Nat} {s:S} (h:at'<en) (h1:rd at'=⟨[s],0,0⟩):Dj rd en (f+1) at'=Mx s (Dj rd en f s.stop):=by
 rw[Dj,if_pos h,h1];rfl
theorem Hb {rd:Nat→SR} {en f at':Nat} (h:at'<en) (h1:(rd at').code≠0):Dj rd en (f+1) at'=⟨[],(rd at').code,(rd at').off⟩:=by
 rw[Dj,if_pos h]
 generalize rd at'=r at*
 obtain⟨l,c,o⟩:=r
 cases c with
 |zero=>exact absurd rfl h1
 |succ c=>cases l<;>rfl
theorem Du {rd:Nat→SR} {en f at':Nat} (h:¬at'<en):Dj rd en f at'=⟨[],0,0⟩:=by
 cases f with
 |zero=>rfl
 |succ f=>rw[Dj,if_neg h]
def Fv (b:List UInt8) (kids:Nat→Nat→SR) (at' en:Nat) (h:Hd):SR:=
 if h.code≠0 then .bad h.code (at'+h.off)
 else if en-at'<h.size+h.len then .bad 1 en
 else if h.k=false then⟨[.mk at' (at'+h.size+h.len) h.c h.n false ((b.drop (at'+h.size)).take h.len) []],0,0⟩
 else if(kids (at'+h.size) (at'+h.size+h.len)).code≠0 then .bad (kids (at'+h.size) (at'+h.size+h.len)).code (kids (at'+h.size) (at'+h.size+h.len)).off
 else⟨[.mk at' (at'+h.size+h.len) h.c h.n true [] (kids (at'+h.size) (at'+h.size+h.len)).l],0,0⟩
def Bm (rd:Nat→Nat→SR) (at' en:Nat):SR:=Dj (fun p=>rd p en) en (en-at') at'
def As (b:List UInt8):Nat→Nat→Nat→SR
 |0,at',_=> .bad 5 at'
 |d+1,at',en=>Fv b (Bm (As b d)) at' en (rhS ((b.drop at').take (en-at')))
def Rds (rd:Nat→SR) (en:Nat):Prop:=∀p,p≤en→((rd p).code=0→∃s:S,rd p=⟨[s],0,0⟩∧p+2≤s.stop∧s.stop≤en)∧((rd p).code≠0→(rd p).off≤en∧(rd p).l=[])
theorem U5 {rd:Nat→SR} {en:Nat} (hr:Rds rd en):∀(f g at':Nat),en-at'≤f→f≤g→Dj rd en g at'=Dj rd en f at':=by
 intro f
 induction f with
 |zero=>
  intro g at' h1 h2
  rw[Du (by omega),Du (by omega)]
 |succ f ih=>
  intro g at' h1 h2
  obtain⟨g,rfl⟩:∃j,g=j+1:=⟨g-1,by omega⟩
  by_cases h3:at'<en
  ·by_cases h4:(rd at').code≠0
   ·rw[Hb h3 h4,Hb h3 h4]
   ·obtain⟨s,e1,e2,e3⟩:=(hr at' (by omega)).1 (Decidable.not_not.1 h4)
    rw[Fu h3 e1,Fu h3 e1,ih g _ (by omega) (by omega)]
  ·rw[Du h3,Du h3]
theorem Zh {rd:Nat→Nat→SR} {at' en:Nat} (h:¬at'<en):Bm rd at' en=⟨[],0,0⟩:=Du h
theorem Zi {rd:Nat→Nat→SR} {at' en:Nat} (h:at'<en) (h1:(rd at' en).code≠0):Bm rd at' en=⟨[],(rd at' en).code,(rd at' en).off⟩:=by
 obtain⟨f,hf⟩:∃f,en-at'=f+1:=⟨en-at'-1,by omega⟩
 rw[Bm,hf]
 exact Hb (rd:=fun p=>rd p en) h h1
theorem U6 {rd:Nat→Nat→SR} {at' en:Nat} {s:S} (hr:Rds (fun p=>rd p en) en) (h:at'<en) (h1:rd at' en=⟨[s],0,0⟩) (h2:at'<s.stop):Bm rd at' en=Mx s (Bm rd s.stop en):=by
 obtain⟨f,hf⟩:∃f,en-at'=f+1:=⟨en-at'-1,by omega⟩
 have e:Dj (fun p=>rd p en) en f s.stop=Bm rd s.stop en:=U5 hr _ _ _ (Nat.le_refl _) (by omega)
 rw[Bm,hf,Fu (rd:=fun p=>rd p en) h h1,e]
theorem dV {rd:Nat→SR} {en:Nat} (hr:Rds rd en):∀(f at':Nat),((Dj rd en f at').code=0→Dj rd en f at'=⟨(Dj rd en f at').l,0,0⟩)∧(Dj rd en f at').off≤en:=by
 intro f
 induction f with
 |zero=>intro at';exact⟨fun _=>rfl,Nat.zero_le _⟩
 |succ f ih=>
  intro at'
  by_cases h3:at'<en
  ·by_cases h4:(rd at').code≠0
   ·rw[Hb h3 h4]
    exact⟨fun h=>absurd h h4,((hr at' (by omega)).2 h4).1⟩
   ·obtain⟨s,e1,e2,e3⟩:=(hr at' (by omega)).1 (Decidable.not_not.1 h4)
    rw[Fu h3 e1]
    by_cases h5:(Dj rd en f s.stop).code=0
    ·rw[Jn h5]
     exact⟨fun _=>rfl,Nat.zero_le _⟩
    ·rw[H2 h5]
     exact⟨fun h=>absurd h h5,(ih s.stop).2⟩
  ·rw[Du h3]
   exact⟨fun _=>rfl,Nat.zero_le _⟩
theorem C3 (b:List UInt8):∀(d en:Nat),en≤b.length→Rds (fun p=>As b d p en) en:=by
 intro d
 induction d with
 |zero=>
  intro en hen p hp
  exact⟨fun h=>by simp[As,SR.bad] at h,fun _=>⟨by simp[As,SR.bad];exact hp,rfl⟩⟩
 |succ d ih=>
  intro en hen p hp
  have hB:=Cv ((b.drop p).take (en-p))
  have hlen:((b.drop p).take (en-p)).length=en-p:=by simp;omega
  rw[hlen] at hB
  show((As b (d+1) p en).code=0→_)∧_
  simp only[As]
  generalize rhS ((b.drop p).take (en-p))=h at hB⊢
  obtain⟨c1,c2,c3,c4,c5,c6,c7⟩:=hB
  unfold Fv
  by_cases k1:h.code≠0
  ·rw[if_pos k1]
   exact⟨fun h'=>absurd h' k1,fun _=>⟨by simp only[SR.bad];omega,rfl⟩⟩
  rw[if_neg k1]
  by_cases k2:en-p<h.size+h.len
  ·rw[if_pos k2]
   exact⟨fun h'=>by simp[SR.bad] at h',fun _=>⟨by simp[SR.bad],rfl⟩⟩
  rw[if_neg k2]
  have c1':=c1 (Decidable.not_not.1 k1)
  by_cases k3:h.k=false
  ·rw[if_pos k3]
   exact⟨fun _=>⟨_,rfl,by simp only[S.stop];omega,by simp only[S.stop];omega⟩,fun h'=>by simp at h'⟩
  rw[if_neg k3]
  have hR:=ih (p+h.size+h.len) (by omega)
  have hK:=dV hR (p+h.size+h.len-(p+h.size)) (p+h.size)
  by_cases k4:(Bm (As b d) (p+h.size) (p+h.size+h.len)).code≠0
  ·rw[if_pos k4]
   have h9:(Bm (As b d) (p+h.size) (p+h.size+h.len)).off≤p+h.size+h.len:=hK.2
   exact⟨fun h'=>absurd h' k4,fun _=>⟨by simp only[SR.bad];omega,rfl⟩⟩
  ·rw[if_neg k4]
   exact⟨fun _=>⟨_,rfl,by simp only[S.stop];omega,by simp only[S.stop];omega⟩,fun h'=>by simp at h'⟩
def Sd:AV:= .agg [iv 0,iv 0,iv 0,iv 0,bv false,Be,Be,Be]
def kB (x:S):AV:= .agg ((Ww true x).map AV.d)
def trA (r:SR):AV:=match r with
 |⟨x::_,0,_⟩=> .tup [kB x,erA 0 0]
 |r=> .tup [Sd,erA r.code r.off]
theorem U7 (x:S):trA ⟨[x],0,0⟩= .tup [kB x,erA 0 0]:=rfl
theorem Jo {r:SR} (h:r.code≠0):trA r= .tup [Sd,erA r.code r.off]:=by
 obtain⟨l,c,o⟩:=r
 cases c with
 |zero=>exact absurd rfl h
 |succ c=>cases l<;>rfl
theorem Ir (c o:Int):Ab Tryz.prog 202 [iv c,iv o] (fun r=>r= .tup [Sd,erA c o]):=by
 refine acQ 10 Tryz.func202 rfl rfl fun _ _ _=> ?_
 (all_goals(conv=>whnf))
 exact NEnd.eq leQ
abbrev kC:S→List D:=Wv true
abbrev kD:S→List D:=Ww true
theorem My {p:Prop} (h:p:=by first|rfl|(simp only[AV.gives,AV.ren,AV.give,D.un,D.uns,Ai,An,List.nil_append,List.append_nil,List.cons_append,A3,Ed,Ee];first|done|rfl)):p:=h
theorem Zj (b:List UInt8) (hb:b.length≤1000000000) (d at' en cc nn ll sz off:Nat) (hd:d<1000) (h1:at'≤en) (h2:en≤b.length) (hsz:2≤sz) (h3:sz+ll≤en-at')
 (hR:Ab Tryz.prog 115 [.d (Ac false ((b.drop at').take (en-at')))] (fun r=>r= .tup [.agg [iv cc,iv nn,bv true,iv ll,iv sz],erA 0 off]))
 (ih:∀(p q:Nat),p≤q→q≤b.length→Ab Tryz.prog 183 [.d (Ac false b),iv p,iv q,iv d] (fun r=>r=trA (As b d p q))):
 Ab Tryz.prog 183 [.d (Ac false b),iv at',iv en,iv (d+1:Nat)] (fun r=>r=trA (Fv b (Bm (As b d)) at' en ⟨cc,nn,true,ll,sz,0,off⟩)):=by
 have hRd:=C3 b d (at'+sz+ll) (by omega)
 have hF:(Bm (As b d) (at'+sz) (at'+sz+ll)).code≠0→Fv b (Bm (As b d)) at' en ⟨cc,nn,true,ll,sz,0,off⟩= .bad (Bm (As b d) (at'+sz) (at'+sz+ll)).code (Bm (As b d) (at'+sz) (at'+sz+ll)).off:=fun h=>by
  unfold Fv
  rw[if_neg (fun x=>x rfl),if_neg (show¬en-at'<sz+ll by omega),if_neg (fun x=>by cases x),if_pos h]
 have hO:(Bm (As b d) (at'+sz) (at'+sz+ll)).code=0→Fv b (Bm (As b d)) at' en ⟨cc,nn,true,ll,sz,0,off⟩=⟨[.mk at' (at'+sz+ll) cc nn true [] (Bm (As b d) (at'+sz) (at'+sz+ll)).l],0,0⟩:=fun h=>by
  unfold Fv
  rw[if_neg (fun x=>x rfl),if_neg (show¬en-at'<sz+ll by omega),if_neg (fun x=>by cases x),if_neg (fun x=>x h)]
 generalize hK:Bm (As b d) (at'+sz) (at'+sz+ll)=K0 at hF hO
 refine acQ 125 Tryz.func183 rfl rfl fun _ _ _=> ?_
 (repeat'((conv=>whnf);first|refine NBr.no ?_|refine NCall.eq hR My ?_|refine NSl.slice (at') (en) ?_|(with_reducible refine NInt.i64 ?_)|(refine NBr.dec (fun hc hcP=> ?_) (fun hc hcP=> ?_)<;>try(exfalso;omega))));(all_goals(conv=>whnf))
 refine NLoop.goA [.b 14 6 1000 5 79,.b 14 7 1001 8 186] (fun z:Nat×List S=>z.1≤at'+sz+ll∧z.2.length≤z.1∧(Bm (As b d) z.1 (at'+sz+ll)).code=K0.code∧(K0.code≠0→(Bm (As b d) z.1 (at'+sz+ll)).off=K0.off)∧(K0.code=0→K0.l=z.2++(Bm (As b d) z.1 (at'+sz+ll)).l)) (fun z=>at'+sz+ll-z.1)
  (fun z=>⟨[(0,.d (Ac false b)),(3,iv (d+1:Nat)),(8,.ptr 8 0),(9,.ptr 9 0),(13,iv z.1),(14,.ptr 14 0)],[(8,[iv 0,iv 0,iv 0,iv 0,bv false,Be,Be,Be]),(9,[iv 0,iv 0]),(14,[iv at',iv (at'+sz+ll:Nat),iv cc,iv nn,bv true,Be,Ey 1000 5 79 kC z.2,Ey 1001 8 186 kD z.2])],[(1000,(z.2.length,5,79)),(1001,(z.2.length,8,186))]⟩) (at'+sz,[]) ⟨by simp only[];omega,by simp,by rw[hK],fun _=>by rw[hK],fun _=>by rw[hK];rfl⟩ leQ ?_
 ·rintro⟨p,acc⟩ ⟨hp,hacc,e1,e2,e3⟩
  simp only[] at hp hacc e1 e2 e3
  by_cases h5:p<at'+sz+ll
  ·have hrec:=ih p (at'+sz+ll) (by omega) (by omega)
   by_cases h6:(As b d p (at'+sz+ll)).code≠0
   ·rw[Zi h5 h6] at e1 e2
    have h7:K0.code≠0:=by rw[←e1];exact h6
    rw[Jo h6,show(As b d p (at'+sz+ll)).code=K0.code from e1,show(As b d p (at'+sz+ll)).off=K0.off from e2 h7] at hrec
    rw[hF h7,Jo (show(SR.bad K0.code K0.off).code≠0 from h7)]
    (repeat'((conv=>whnf);first|refine NCall.eq hrec My ?_|refine NInt.as (((d:Nat):Int)) ((by rw[IntWalk.i64_in _ (by omega)];omega)) ?_|refine NFact.go ⟨by decide+kernel,by kernel_rfl⟩ ?_|(refine NBr.dec (fun hc hcP=> ?_) (fun hc hcP=> ?_)<;>try(exfalso;omega))|(refine NBr.bne (fun hc hcP=> ?_) (fun hc hcP=> ?_)<;>try(exfalso;omega))));(all_goals(conv=>whnf))
    all_goals exact NEnd.eq leQ
   ·obtain⟨s,r1,r2,r3⟩:=(hRd p (by omega)).1 (Decidable.not_not.1 h6)
    obtain⟨a,q,c,n,k,b',ks⟩:=s
    have r1':As b d p (at'+sz+ll)=⟨[S.mk a q c n k b' ks],0,0⟩:=r1
    have r2':p+2≤q:=r2
    have r3':q≤at'+sz+ll:=r3
    rw[r1',U7] at hrec
    have hrec':Ab Tryz.prog 183 [.d (Ac false b),iv p,iv (at'+sz+ll:Nat),iv d] (fun r=>r= .tup [.agg [iv a,iv q,iv c,iv n,bv k,.d (Ac true b'),.d (.sl true ks.length 5 (Fg true ks)),.d (.sl true ks.length 8 (Ha true ks))],erA 0 0]):=hrec
    have hst:=U6 hRd h5 r1' (show p<q by omega)
    have hst':Bm (As b d) p (at'+sz+ll)=Mx (S.mk a q c n k b' ks) (Bm (As b d) q (at'+sz+ll)):=hst
    have e1':(Bm (As b d) q (at'+sz+ll)).code=K0.code:=by
     rw[←e1,hst']
     by_cases h9:(Bm (As b d) q (at'+sz+ll)).code=0
     ·rw[Jn h9];exact h9
     ·rw[H2 h9]
    have e2':K0.code≠0→(Bm (As b d) q (at'+sz+ll)).off=K0.off:=fun h=>by
     rw[←e2 h,hst',H2 (by rw[e1'];exact h)]
    have e3':K0.code=0→K0.l=(acc++[S.mk a q c n k b' ks])++(Bm (As b d) q (at'+sz+ll)).l:=fun h=>by
     rw[e3 h,hst',Jn (by rw[e1'];exact h)];simp
    clear hst hst' r1 r2 r3 hrec e1 e2 e3
    (repeat'((conv=>whnf);first|refine NBr.no ?_|refine NCall.eq hrec' My ?_|refine NInt.as (((d:Nat):Int)) ((by rw[IntWalk.i64_in _ (by omega)];omega)) ?_|refine NApp.one kC (S.mk a q c n k b' ks) ?_|refine NApp.one kD (S.mk a q c n k b' ks) ?_|(refine NBr.dec (fun hc hcP=> ?_) (fun hc hcP=> ?_)<;>try(exfalso;omega))));(all_goals(conv=>whnf))
    refine⟨(q,acc++[S.mk a q c n k b' ks]),⟨by simp only[];omega,by simp only[List.length_append,List.length_cons,List.length_nil] at*;omega,e1',e2',e3'⟩,by simp only[];omega,?_⟩
    exact leQ
  ·rw[Zh h5] at e1 e3
   have h7:K0.code=0:=e1.symm
   have h8:=e3 h7
   rw[hO h7,h8,List.append_nil]
   (repeat'((conv=>whnf);(refine NBr.dec (fun hc hcP=> ?_) (fun hc hcP=> ?_)<;>try(exfalso;omega))));(all_goals(conv=>whnf))
   all_goals(refine NEnd.eq ?_;(repeat'(first|exact trivial|exact Db _|refine And.intro ?_ ?_|exact rfl));(all_goals(conv=>whnf)))
   all_goals first|exact(Zf true acc).symm|exact(Zg true acc).symm
theorem Jp {p:Prop} (h:p:=by first|rfl|(simp only[AV.gives,AV.ren,AV.give,D.un,D.uns,Ai,An,List.nil_append,List.append_nil,List.cons_append,A3,Ed,Ee];first|done|rfl)):p:=h
theorem dW (b:List UInt8) (hb:b.length≤1000000000):∀(d at' en:Nat),d≤1000→at'≤en→en≤b.length→Ab Tryz.prog 183 [.d (Ac false b),iv at',iv en,iv d] (fun r=>r=trA (As b d at' en)):=by
 intro d
 induction d with
 |zero=>
  intro at' en hd h1 h2
  refine acQ 125 Tryz.func183 rfl rfl fun _ _ _=> ?_
  (repeat'((conv=>whnf);first|refine NBr.yes ?_|refine NCall.eq (Ir 5 at') rfl ?_));(all_goals(conv=>whnf))
  all_goals exact NEnd.eq leQ
 |succ d ih=>
  intro at' en hd h1 h2
  have hlen:((b.drop at').take (en-at')).length=en-at':=by simp;omega
  have hR:=Jc ((b.drop at').take (en-at')) (by omega)
  have hB:=Cv ((b.drop at').take (en-at'))
  have hRd:=C3 b d
  rw[hlen] at hB
  rw[As]
  generalize hh:rhS ((b.drop at').take (en-at'))=h at hR hB⊢
  obtain⟨c1,c2,c3,c4,c5,c6,c7⟩:=hB
  by_cases k1:h.code=0
  ·have c1':=c1 k1
   by_cases k2:en-at'<h.size+h.len
   ·rw[Fv,if_neg (by omega),if_pos k2]
    refine acQ 125 Tryz.func183 rfl rfl fun _ _ _=> ?_
    (repeat'((conv=>whnf);first|refine NBr.no ?_|refine NCall.eq hR Jp ?_|refine NSl.slice (at') (en) ?_|refine NCall.eq (Ir _ _) rfl ?_|(with_reducible refine NInt.i64 ?_)|(refine NBr.dec (fun hc hcP=> ?_) (fun hc hcP=> ?_)<;>try(exfalso;omega))|(refine NBr.bne (fun hc hcP=> ?_) (fun hc hcP=> ?_)<;>try(exfalso;omega))));(all_goals(conv=>whnf))
    all_goals exact NEnd.eq leQ
    all_goals rfl
   ·obtain⟨cc,nn,kk,ll,sz,cd,of⟩:=h
    have k2':¬en-at'<sz+ll:=k2
    have k1':¬cd≠0:=fun x=>x k1
    have k0:cd=0:=k1
    have c1a:2≤sz:=c1'.1
    have c1b:sz≤en-at':=c1'.2.1
    have c4a:ll≤2147483647:=c4
    have hq:at'+sz+ll-(at'+sz)=ll:=by omega
    have hR':Ab Tryz.prog 115 [.d (Ac false ((b.drop at').take (en-at')))] (fun r=>r= .tup [.agg [iv cc,iv nn,bv kk,iv ll,iv sz],erA cd of]):=hR
    cases kk with
    |false=>
     have hC:=Hu ((b.drop (at'+sz)).take (at'+sz+ll-(at'+sz))) (by rw[List.length_take];omega)
     have e:Fv b (Bm (As b d)) at' en ⟨cc,nn,false,ll,sz,cd,of⟩=⟨[.mk at' (at'+sz+ll) cc nn false ((b.drop (at'+sz)).take (at'+sz+ll-(at'+sz))) []],0,0⟩:=by
      rw[hq];unfold Fv
      rw[if_neg k1',if_neg k2',if_pos rfl]
     rw[e]
     refine acQ 125 Tryz.func183 rfl rfl fun _ _ _=> ?_
     (repeat'((conv=>whnf);first|refine NBr.yes ?_|refine NBr.no ?_|refine NCall.eq hR' Jp ?_|refine NSl.slice (at') (en) ?_|refine NSl.slice (at'+sz) (at'+sz+ll) ?_|refine NCall.eq hC Jp ?_|(with_reducible refine NInt.i64 ?_)|(refine NBr.dec (fun hc hcP=> ?_) (fun hc hcP=> ?_)<;>try(exfalso;omega))|(refine NBr.bne (fun hc hcP=> ?_) (fun hc hcP=> ?_)<;>try(exfalso;omega))));(all_goals(conv=>whnf))
     all_goals exact NEnd.eq leQ
     all_goals rfl
    |true=>
     subst k0
     exact Zj b hb d at' en cc nn ll sz of (by omega) h1 h2 c1a (by omega) hR' (fun p q hp hq'=>ih p q (by omega) hp hq')
  ·have e:Fv b (Bm (As b d)) at' en h= .bad h.code (at'+h.off):=by rw[Fv,if_pos k1]
   rw[e,Jo k1]
   refine acQ 125 Tryz.func183 rfl rfl fun _ _ _=> ?_
   (repeat'((conv=>whnf);first|refine NBr.no ?_|refine NCall.eq hR Jp ?_|refine NSl.slice (at') (en) ?_|refine NCall.eq (Ir _ _) rfl ?_|(with_reducible refine NInt.i64 ?_)|(refine NBr.bne (fun hc hcP=> ?_) (fun hc hcP=> ?_)<;>try(exfalso;omega))));(all_goals(conv=>whnf))
   all_goals exact NEnd.eq leQ
   all_goals rfl
def Pz (n:Nat):SR→SR
 |⟨s::_,0,_⟩=>if s.stop<n then .bad 2 s.stop else⟨[s],0,0⟩
 |r=> .bad r.code r.off
def B4 (b:List UInt8):SR:=Pz b.length (As b 16 0 b.length)
theorem D0 {n:Nat} {s:S} (h:s.stop<n):Pz n ⟨[s],0,0⟩= .bad 2 s.stop:=if_pos h
theorem Fw {n:Nat} {s:S} (h:¬s.stop<n):Pz n ⟨[s],0,0⟩=⟨[s],0,0⟩:=if_neg h
theorem Ew {n c o:Nat}:Pz n ⟨[],c,o⟩= .bad c o:=by cases c<;>rfl
theorem Hc {p:Prop} (h:p:=by first|rfl|(simp only[AV.gives,AV.ren,AV.give,D.un,D.uns,Ai,An,List.nil_append,List.append_nil,List.cons_append,A3,Ed,Ee];first|done|rfl)):p:=h
theorem Zk (b:List UInt8) (hb:b.length≤1000000000):Ab Tryz.prog 145 [.d (Ac false b)] (fun r=>r=trA (B4 b)):=by
 have hR:=dW b hb 16 0 b.length (by omega) (by omega) (by omega)
 have hF:=C3 b 16 b.length (by omega) 0 (by omega)
 dsimp only at hF
 unfold B4
 generalize As b 16 0 b.length=r at hR hF
 by_cases h:r.code=0
 ·obtain⟨s,rfl,h1,h2⟩:=hF.1 h
  obtain⟨a,q,c,n,k,b',ks⟩:=s
  simp only[S.stop] at h1 h2
  rw[U7] at hR
  have hR':Ab Tryz.prog 183 [.d (Ac false b),iv 0,iv b.length,iv 16] (fun r=>r= .tup [.agg [iv a,iv q,iv c,iv n,bv k,.d (Ac true b'),.d (.sl true ks.length 5 (Fg true ks)),.d (.sl true ks.length 8 (Ha true ks))],erA 0 0]):=hR
  by_cases h3:q<b.length
  ·rw[D0 (show(S.mk a q c n k b' ks).stop<b.length from h3)]
   refine acQ 29 Tryz.func145 rfl rfl fun _ _ _=> ?_
   (repeat'((conv=>whnf);first|refine NBr.yes ?_|refine NCall.eq hR' Hc ?_|refine NFact.go ⟨by decide+kernel,by kernel_rfl⟩ ?_|(refine NBr.dec (fun hc hcP=> ?_) (fun hc hcP=> ?_)<;>try(exfalso;omega))));(all_goals(conv=>whnf))
   all_goals exact NEnd.eq leQ
  ·rw[Fw (show¬(S.mk a q c n k b' ks).stop<b.length from h3)]
   refine acQ 29 Tryz.func145 rfl rfl fun _ _ _=> ?_
   (repeat'((conv=>whnf);first|refine NBr.yes ?_|refine NCall.eq hR' Hc ?_|refine NFact.go ⟨by decide+kernel,by kernel_rfl⟩ ?_|(refine NBr.dec (fun hc hcP=> ?_) (fun hc hcP=> ?_)<;>try(exfalso;omega))));(all_goals(conv=>whnf))
   all_goals exact NEnd.eq leQ
 ·rw[Jo h] at hR
  obtain⟨l,c,o⟩:=r
  have hl:l=[]:=(hF.2 h).2
  subst hl
  have h':¬c=0:=h
  have hR':Ab Tryz.prog 183 [.d (Ac false b),iv 0,iv b.length,iv 16] (fun r=>r= .tup [Sd,erA c o]):=hR
  rw[Ew]
  refine acQ 29 Tryz.func145 rfl rfl fun _ _ _=> ?_
  (repeat'((conv=>whnf);first|refine NBr.no ?_|refine NCall.eq hR' Hc ?_|refine NFact.go ⟨by decide+kernel,by kernel_rfl⟩ ?_|(refine NBr.dec (fun hc hcP=> ?_) (fun hc hcP=> ?_)<;>try(exfalso;omega))));(all_goals(conv=>whnf))
  all_goals exact NEnd.eq leQ
theorem Zl (b:List UInt8) (hb:b.length≤1000000000):Ab Tryz.prog 103 [.d (Ac false b)] (fun r=>r= .tup [.agg ((match B4 b with
 |⟨s::_,0,_⟩=>Wv true s
 |_=>[.v (.int .i64 0),.v (.int .i64 0),.v (.bool false),.v (.slice none 0 0),.v (.slice none 0 0)]).map AV.d),erA (B4 b).code (B4 b).off]):=by
 have hR:=Zk b hb
 have hF:=C3 b 16 b.length (by omega) 0 (by omega)
 dsimp only at hF
 have hW:((B4 b).code=0→∃s,B4 b=⟨[s],0,0⟩)∧((B4 b).code≠0→(B4 b).l=[]):=by
  unfold B4
  generalize As b 16 0 b.length=r at hF
  by_cases h:r.code=0
  ·obtain⟨s,rfl,h1,h2⟩:=hF.1 h
   by_cases h3:s.stop<b.length
   ·rw[D0 h3];simp[SR.bad]
   ·rw[Fw h3];simp
  ·obtain⟨l,c,o⟩:=r
   have hl:l=[]:=(hF.2 h).2
   subst hl
   have h':¬c=0:=h
   rw[Ew];simp[SR.bad,h']
 generalize B4 b=r at hR hW⊢
 by_cases h:r.code=0
 ·obtain⟨s,rfl⟩:=hW.1 h
  obtain⟨a,q,c,n,k,b',ks⟩:=s
  rw[U7] at hR
  have hR':Ab Tryz.prog 145 [.d (Ac false b)] (fun r=>r= .tup [.agg [iv a,iv q,iv c,iv n,bv k,.d (Ac true b'),.d (.sl true ks.length 5 (Fg true ks)),.d (.sl true ks.length 8 (Ha true ks))],erA 0 0]):=hR
  refine acQ 14 Tryz.func103 rfl rfl fun _ _ _=> ?_
  (repeat'((conv=>whnf);first|refine NCall.eq hR' Hc ?_|refine NFact.go ⟨by decide+kernel,by kernel_rfl⟩ ?_));(all_goals(conv=>whnf))
  all_goals exact NEnd.eq leQ
 ·rw[Jo h] at hR
  obtain⟨l,c,o⟩:=r
  have hl:l=[]:=hW.2 h
  subst hl
  have h':¬c=0:=h
  have hR':Ab Tryz.prog 145 [.d (Ac false b)] (fun r=>r= .tup [Sd,erA c o]):=hR
  refine acQ 14 Tryz.func103 rfl rfl fun _ _ _=> ?_
  (repeat'((conv=>whnf);first|refine NCall.eq hR' Hc ?_|refine NFact.go ⟨by decide+kernel,by kernel_rfl⟩ ?_));(all_goals(conv=>whnf))
  all_goals exact NEnd.eq leQ
inductive Tr where
 |mk (c n:Nat) (k:Bool) (b:List UInt8) (ks:List Tr)
mutual
def Tr.cells (t:Bool):Tr→List D
 | .mk c n k b ks=>[.v (.int .i64 c),.v (.int .i64 n),.v (.bool k),Ac t b,.sl t ks.length 5 (Tr.cellss t ks)]
def Tr.cellss (t:Bool):List Tr→List D
 |[]=>[]
 |s::r=>s.cells t++Tr.cellss t r
end
structure TR where
 l:List Tr
 size:Nat
 code:Nat
 off:Nat
def TR.bad (code off:Nat):TR:=⟨[],0,code,off⟩
def Oi (sz:Nat) (x:Tr) (r:TR):TR:=if r.code=0 then⟨x::r.l,0,0,0⟩ else .bad r.code (sz+r.off)
theorem Mz {sz:Nat} {x:Tr} {r:TR} (h:r.code=0):Oi sz x r=⟨x::r.l,0,0,0⟩:=if_pos h
theorem H3 {sz:Nat} {x:Tr} {r:TR} (h:r.code≠0):Oi sz x r= .bad r.code (sz+r.off):=if_neg h
def kT (rd:List UInt8→TR):Nat→List UInt8→TR
 |0,_=>⟨[],0,0,0⟩
 |f+1,l=>if l.length=0 then⟨[],0,0,0⟩ else match rd l with
  |⟨t::_,sz,0,_⟩=>Oi sz t (kT rd f (l.drop sz))
  |r=> .bad r.code r.off
def Bh (rd:List UInt8→TR) (l:List UInt8):TR:=kT rd l.length l
theorem J9 {rd:List UInt8→TR} {f:Nat} {l:List UInt8} (h:l.length=0):kT rd f l=⟨[],0,0,0⟩:=by
 cases f with
 |zero=>rfl
 |succ f=>rw[kT,if_pos h]
theorem P0 {rd:List UInt8→TR} {f:Nat} {l:List UInt8} {t:Tr} {sz:Nat} (h:l.length≠0) (h1:rd l=⟨[t],sz,0,0⟩):kT rd (f+1) l=Oi sz t (kT rd f (l.drop sz)):=by
 rw[kT,if_neg h,h1];rfl
theorem Wx {rd:List UInt8→TR} {f:Nat} {l:List UInt8} (h:l.length≠0) (h1:(rd l).code≠0):kT rd (f+1) l= .bad (rd l).code (rd l).off:=by
 rw[kT,if_neg h]
 generalize rd l=r at*
 obtain⟨l,s,c,o⟩:=r
 cases c with
 |zero=>exact absurd rfl h1
 |succ c=>cases l<;>rfl
def RdT (rd:List UInt8→TR):Prop:=∀l,((rd l).code=0→∃t sz,rd l=⟨[t],sz,0,0⟩∧2≤sz∧sz≤l.length)∧((rd l).code≠0→(rd l).off≤l.length∧(rd l).l=[]∧(rd l).size=0∧(rd l).code≤9)
theorem iS {rd:List UInt8→TR} (hr:RdT rd):∀(f g:Nat) (l:List UInt8),l.length≤f→f≤g→kT rd g l=kT rd f l:=by
 intro f
 induction f with
 |zero=>intro g l h1 h2;rw[J9 (by omega),J9 (by omega)]
 |succ f ih=>
  intro g l h1 h2
  obtain⟨g,rfl⟩:∃j,g=j+1:=⟨g-1,by omega⟩
  by_cases h3:l.length=0
  ·rw[J9 h3,J9 h3]
  ·by_cases h4:(rd l).code=0
   ·obtain⟨t,sz,e1,e2,e3⟩:=(hr l).1 h4
    rw[P0 h3 e1,P0 h3 e1,ih g _ (by rw[List.length_drop];omega) (by omega)]
   ·rw[Wx h3 h4,Wx h3 h4]
theorem C4 {rd:List UInt8→TR} {l:List UInt8} (h:l.length=0):Bh rd l=⟨[],0,0,0⟩:=J9 h
theorem Ka {rd:List UInt8→TR} {l:List UInt8} (h:l.length≠0) (h1:(rd l).code≠0):Bh rd l= .bad (rd l).code (rd l).off:=by
 obtain⟨f,hf⟩:∃f,l.length=f+1:=⟨l.length-1,by omega⟩
 rw[Bh,hf];exact Wx h h1
theorem Gg {rd:List UInt8→TR} (hr:RdT rd) {l:List UInt8} {t:Tr} {sz:Nat} (h:l.length≠0) (h1:rd l=⟨[t],sz,0,0⟩):Bh rd l=Oi sz t (Bh rd (l.drop sz)):=by
 obtain⟨f,hf⟩:∃f,l.length=f+1:=⟨l.length-1,by omega⟩
 have h2:(rd l).code=0:=by rw[h1]
 obtain⟨t',sz',e1,e2,e3⟩:=(hr l).1 h2
 have hs:sz'=sz:=by rw[h1] at e1;cases e1;rfl
 subst hs
 rw[Bh,hf,P0 h h1,Bh,iS hr (l.drop sz').length f _ (Nat.le_refl _) (by rw[List.length_drop];omega)]
theorem Se {rd:List UInt8→TR} (hr:RdT rd):∀(f:Nat) (l:List UInt8),l.length≤f→((Bh rd l).code=0→Bh rd l=⟨(Bh rd l).l,0,0,0⟩)∧((Bh rd l).code≠0→(Bh rd l).off≤l.length∧(Bh rd l).code≤9):=by
 intro f
 induction f with
 |zero=>intro l h;rw[C4 (by omega)];exact⟨fun _=>rfl,fun h=>absurd rfl h⟩
 |succ f ih=>
  intro l h
  by_cases h3:l.length=0
  ·rw[C4 h3];exact⟨fun _=>rfl,fun h=>absurd rfl h⟩
  ·by_cases h4:(rd l).code=0
   ·obtain⟨t,sz,e1,e2,e3⟩:=(hr l).1 h4
    have ih':=ih (l.drop sz) (by rw[List.length_drop];omega)
    rw[Gg hr h3 e1]
    by_cases h5:(Bh rd (l.drop sz)).code=0
    ·rw[Mz h5];exact⟨fun _=>rfl,fun h=>absurd rfl h⟩
    ·rw[H3 h5]
     have:=ih'.2 h5
     rw[List.length_drop] at this
     exact⟨fun h=>absurd h h5,fun _=>⟨by simp only[TR.bad];omega,this.2⟩⟩
   ·rw[Ka h3 h4]
    exact⟨fun h=>absurd h h4,fun _=>⟨((hr l).2 h4).1,((hr l).2 h4).2.2.2⟩⟩
def rTH (rd:List UInt8→TR) (l:List UInt8) (h:Hd):TR:=
 if h.code≠0 then .bad h.code h.off
 else if l.length<h.size+h.len then .bad 1 l.length
 else if h.k=false then⟨[.mk h.c h.n false ((l.drop h.size).take h.len) []],h.size+h.len,0,0⟩
 else if(Bh rd ((l.drop h.size).take h.len)).code≠0 then .bad (Bh rd ((l.drop h.size).take h.len)).code (h.size+(Bh rd ((l.drop h.size).take h.len)).off)
 else⟨[.mk h.c h.n true [] (Bh rd ((l.drop h.size).take h.len)).l],h.size+h.len,0,0⟩
def rT:Nat→List UInt8→TR
 |0,_=> .bad 5 0
 |d+1,l=>rTH (rT d) l (rhS l)
theorem Oj:∀d,RdT (rT d):=by
 intro d
 induction d with
 |zero=>intro l;exact⟨fun h=>by simp[rT,TR.bad] at h,fun _=>by simp[rT,TR.bad]⟩
 |succ d ih=>
  intro l
  have hB:=Cv l
  simp only[rT]
  generalize rhS l=h at hB⊢
  obtain⟨c1,c2,c3,c4,c5,c6,c7⟩:=hB
  unfold rTH
  by_cases k1:h.code≠0
  ·rw[if_pos k1]
   exact⟨fun h'=>absurd h' k1,fun _=>⟨by simp only[TR.bad];omega,rfl,rfl,by simp only[TR.bad];omega⟩⟩
  rw[if_neg k1]
  have c1':=c1 (Decidable.not_not.1 k1)
  by_cases k2:l.length<h.size+h.len
  ·rw[if_pos k2]
   exact⟨fun h'=>by simp[TR.bad] at h',fun _=>by simp[TR.bad]⟩
  rw[if_neg k2]
  by_cases k3:h.k=false
  ·rw[if_pos k3]
   exact⟨fun _=>⟨_,_,rfl,by omega,by omega⟩,fun h'=>by simp at h'⟩
  rw[if_neg k3]
  have hK:=Se ih _ ((l.drop h.size).take h.len) (Nat.le_refl _)
  have hl:((l.drop h.size).take h.len).length=h.len:=by rw[List.length_take,List.length_drop];omega
  rw[hl] at hK
  by_cases k4:(Bh (rT d) ((l.drop h.size).take h.len)).code≠0
  ·rw[if_pos k4]
   have:=hK.2 k4
   exact⟨fun h'=>absurd h' k4,fun _=>⟨by simp only[TR.bad];omega,rfl,rfl,this.2⟩⟩
  ·rw[if_neg k4]
   exact⟨fun _=>⟨_,_,rfl,by omega,by omega⟩,fun h'=>by simp at h'⟩
def P1 (n:Nat):TR→TR
 |⟨t::_,sz,0,_⟩=>if sz<n then .bad 2 sz else⟨[t],sz,0,0⟩
 |r=> .bad r.code r.off
theorem Kz {n sz:Nat} {t:Tr} (h:sz<n):P1 n ⟨[t],sz,0,0⟩= .bad 2 sz:=if_pos h
theorem Ok {n sz:Nat} {t:Tr} (h:¬sz<n):P1 n ⟨[t],sz,0,0⟩=⟨[t],sz,0,0⟩:=if_neg h
theorem M0 {n c o s:Nat}:P1 n ⟨[],s,c,o⟩= .bad c o:=by cases c<;>rfl
def Dx (d:Nat) (b:List UInt8):TR:=P1 b.length (rT d b)
theorem Ns (d:Nat) (b:List UInt8):((Dx d b).code=0→∃t,Dx d b=⟨[t],b.length,0,0⟩∧rT d b=⟨[t],b.length,0,0⟩)∧((Dx d b).code≠0→(Dx d b).l=[]∧(Dx d b).size=0∧(Dx d b).off≤b.length):=by
 have hF:=Oj d b
 unfold Dx
 generalize rT d b=r at hF⊢
 by_cases h:r.code=0
 ·obtain⟨t,sz,rfl,h1,h2⟩:=hF.1 h
  by_cases h3:sz<b.length
  ·rw[Kz h3];exact⟨fun h=>by simp[TR.bad] at h,fun _=>⟨rfl,rfl,h2⟩⟩
  ·have:sz=b.length:=by omega
   subst this
   rw[Ok h3];exact⟨fun _=>⟨t,rfl,rfl⟩,fun h=>absurd rfl h⟩
 ·obtain⟨l,s,c,o⟩:=r
  obtain⟨h1,h2,h3,h4⟩:=hF.2 h
  have h2:l=[]:=h2
  subst h2
  have h':¬c=0:=h
  rw[M0]
  exact⟨fun h=>absurd h h',fun _=>⟨rfl,rfl,h1⟩⟩
def Tr.zero:Tr:= .mk 0 0 false [] []
def TR.tree (r:TR):Tr:=r.l.headD .zero
def dX (b:List UInt8):Bool:=(Dx 16 b).code==0
mutual
def Tr.enc:Tr→List UInt8
 | .mk c n k b ks=>Me (UInt8.ofNat (idN c k n)) (b++Tr.encs ks)
def Tr.encs:List Tr→List UInt8
 |[]=>[]
 |s::r=>s.enc++Tr.encs r
end
mutual
def Tr.ok:Tr→Prop
 | .mk c n _ _ ks=>c≤3∧n≤30∧Tr.oks ks
def Tr.oks:List Tr→Prop
 |[]=>True
 |s::r=>s.ok∧Tr.oks r
end
theorem M1 (x:UInt8) (c:List UInt8):(Me x c).length=1+(Ec c.length).length+c.length:=by
 unfold Me;simp;omega
theorem Tr.enc_pos (t:Tr):1≤t.enc.length:=by cases t;rw[Tr.enc,M1];omega
theorem Fx (s:List UInt8):(Bj s).length≤5*(s.length+1):=by
 unfold Bj
 cases h:De s with
 |none=>simp
 |some a=>
  obtain⟨k1,k2,k3⟩:=Gf h
  have hal:=U4 h
  obtain⟨x,y,r,rfl,x2,xy,y2⟩:=Ei k1
  have hxy:40*x+y≤4294967295:=by
   by_cases hx:x<2
   ·have:=xy hx;omega
   ·omega
  have h1:=Oh true 4 (40*x+y) (by omega)
  have h2:=Jm r (fun n hn=>k2 n (by simp[hn]))
  simp only[List.length_cons] at hal
  simp only[Uv,List.length_append];omega
def Tr.v:Tr→List UInt8
 | .mk _ _ _ b _=>b
def Tr.ks:Tr→List Tr
 | .mk _ _ _ _ ks=>ks
def Tr.n:Tr→Nat
 | .mk _ n _ _ _=>n
def Tr.kid (t:Tr) (i:Nat):Tr:=t.ks.getD i .zero
theorem dY (n:Nat):beV (Gs n)=n:=by
 induction n using Nat.strongRecOn with
 |_ n ih=>
  by_cases h:n<256
  ·rw[Bp h];simp[beV];omega
  ·rw[Fs h,Ma,ih (n/256) (by omega),UInt8.toNat_ofNat'];omega
theorem iT (n:Nat) (hn:n≤2147483647) (rest:List UInt8):rlS (Ec n++rest)=(n,(Ec n).length,0,0):=by
 have hL:=G6 3 n (by omega)
 by_cases h:n<128
 ·rw[Ec,if_pos h,Bp (by omega),List.singleton_append,J4 (by rw[UInt8.toNat_ofNat'];omega),UInt8.toNat_ofNat',Nat.mod_eq_of_lt (by omega)]
  rfl
 ·obtain⟨y,s,e,hy⟩:=N8 3 n (by omega) (by omega)
  have hb:beV (y::s)=n:=by rw[←e,dY]
  rw[e] at hL
  rw[List.length_cons] at hL
  have hk:(UInt8.ofNat (128+(y::s).length)).toNat=s.length+1+128:=by rw[UInt8.toNat_ofNat',List.length_cons];omega
  have ht:(y::(s++rest)).take (s.length+1)=y::s:=by simp
  rw[Ec,if_neg h,e,List.cons_append,List.cons_append,Up hk (by omega) (by omega) (by simp) (by rw[ht,hb];omega),ht,hb]
  rfl
theorem iU {l:List UInt8} (h:(rlS l).2.2.1=0):l.take (rlS l).2.1=Ec (rlS l).1:=by
 cases l with
 |nil=>simp[rlS] at h
 |cons x r=>
  have hx:=x.toNat_lt
  by_cases h1:x.toNat<128
  ·rw[J4 h1]
   show(x::r).take 1=Ec x.toNat
   rw[Ec,if_pos h1,Bp (by omega),Gc];rfl
  by_cases h2:x.toNat=128∨x.toNat>132
  ·rw[Rn (by omega) h2] at h;cases h
  by_cases h3:r.length<x.toNat-128
  ·rw[N7 (by omega) (by omega) h3] at h;cases h
  cases r with
  |nil=>simp at h3;omega
  |cons y s=>
   rw[List.length_cons] at h3
   obtain⟨k,hk⟩:∃k,x.toNat=k+128:=⟨x.toNat-128,by omega⟩
   by_cases h4:y.toNat=0∨beV ((y::s).take k)<128∨beV ((y::s).take k)>2147483647
   ·rw[V9 hk (by omega) (by omega) (by omega) h4] at h;cases h
   ·rw[Up hk (by omega) (by omega) (by omega) h4]
    obtain⟨j,rfl⟩:∃j,k=j+1:=⟨k-1,by omega⟩
    rw[List.take_succ_cons] at h4⊢
    show(x::y::s).take (j+1+1)=Ec (beV (y::s.take j))
    rw[List.take_succ_cons,List.take_succ_cons,Ec,if_neg (by omega),(cP y (by omega) j _ (by rw[List.length_take];omega)).1,List.length_cons,List.length_take,show 128+(min j s.length+1)=x.toNat by omega,Gc]
theorem mD (c n:Nat) (k:Bool):idN c k n=c*64+n+(if k then 32 else 0):=by unfold idN;cases k<;>simp<;>omega
theorem Ol {c n:Nat} (k:Bool) (hc:c≤3) (hn:n≤30):(UInt8.ofNat (idN c k n)).toNat=c*64+n+(if k then 32 else 0):=by
 have:=cU k hc hn
 rw[UInt8.toNat_ofNat',Nat.mod_eq_of_lt (by omega),mD]
theorem iV {c n:Nat} {k:Bool} (l rest:List UInt8) (hc:c≤3) (hn:n≤30) (hl:l.length≤2147483647):rhS (Aj c n k l++rest)=⟨c,n,k,l.length,(Ec l.length).length+1,0,0⟩:=by
 have hx:=Ol k hc hn
 unfold Aj Me
 generalize UInt8.ofNat (idN c k n)=x at hx
 rw[List.cons_append,List.append_assoc,rhS,iT _ hl]
 cases k
 ·simp only[Bool.false_eq_true,ite_false,Nat.add_zero] at hx
  rw[if_neg (by omega),if_pos rfl,show x.toNat/64=c by omega,show x.toNat%32=n by omega,show(x.toNat/32%2==1)=false by rw[beq_eq_false_iff_ne];omega]
 ·simp only[ite_true] at hx
  rw[if_neg (by omega),if_pos rfl,show x.toNat/64=c by omega,show x.toNat%32=n by omega,show(x.toNat/32%2==1)=true by rw[beq_iff_eq];omega]
theorem iW {l:List UInt8} (h:(rhS l).code=0) (hle:(rhS l).size+(rhS l).len≤l.length):l.take ((rhS l).size+(rhS l).len)=Aj (rhS l).c (rhS l).n (rhS l).k ((l.drop (rhS l).size).take (rhS l).len):=by
 cases l with
 |nil=>simp[rhS,Hd.bad] at h
 |cons x r=>
  have hx:=x.toNat_lt
  rw[rhS] at h hle⊢
  by_cases h1:x.toNat%32=31
  ·rw[if_pos h1] at h;simp[Hd.bad] at h
  rw[if_neg h1] at h hle⊢
  by_cases h2:(rlS r).2.2.1=0
  ·rw[if_pos h2] at h hle⊢
   have hi:=iU h2
   simp only[List.length_cons] at hle⊢
   rw[show(rlS r).2.1+1+(rlS r).1=(rlS r).2.1+(rlS r).1+1 by omega,List.take_succ_cons,List.drop_succ_cons]
   have hlen:((r.drop (rlS r).2.1).take (rlS r).1).length=(rlS r).1:=by rw[List.length_take,List.length_drop];omega
   unfold Aj Me
   rw[hlen,←hi,←List.take_add]
   congr 1
   apply UInt8.toNat_inj.1
   rw[Ol _ (by omega) (by omega)]
   by_cases hb:x.toNat/32%2=1
   ·rw[show(x.toNat/32%2==1)=true from beq_iff_eq.2 hb,if_pos rfl];omega
   ·rw[show(x.toNat/32%2==1)=false from beq_eq_false_iff_ne.2 hb,if_neg (by simp)];omega
  ·rw[if_neg h2] at h;exact absurd h h2
structure Tv where
 c:Nat
 n:Nat
 k:Bool
 v:List UInt8
 deriving DecidableEq
def Tv.enc (t:Tv):List UInt8:=Aj t.c t.n t.k t.v
structure Tv.ok (t:Tv):Prop where
 c:t.c≤3
 n:t.n≤30
 v:t.v.length≤2147483647
def Tv.hd (t:Tv):Nat:=(Ec t.v.length).length+1
theorem Tv.len (t:Tv):t.enc.length=t.hd+t.v.length:=by
 unfold Tv.enc Tv.hd Aj Me
 rw[List.length_cons,List.length_append];omega
theorem Tv.body (t:Tv):t.enc.drop t.hd=t.v:=by
 unfold Tv.enc Tv.hd Aj Me
 rw[List.drop_succ_cons,List.drop_left]
theorem Tv.hd_pos (t:Tv) (h:t.ok):2≤t.hd:=by have:=Md _ h.v;unfold Tv.hd;omega
theorem Tv.rh {t:Tv} (h:t.ok) (rest:List UInt8):rhS (t.enc++rest)=⟨t.c,t.n,t.k,t.v.length,t.hd,0,0⟩:=iV t.v rest h.c h.n h.v
theorem Tv.inj {t u:Tv} (ht:t.ok) (hu:u.ok) {r s:List UInt8} (h:t.enc++r=u.enc++s):t=u∧r=s:=by
 have h1:=Tv.rh ht r
 have h2:=Tv.rh hu s
 rw[h] at h1
 rw[h1] at h2
 injection h2 with e1 e2 e3 e4 e5
 have hb:t.enc=u.enc:=by
  have:=congrArg (List.take t.enc.length) h
  rw[List.take_left,show t.enc.length=u.enc.length by rw[Tv.len,Tv.len];omega,List.take_left] at this
  exact this
 have hv:t.v=u.v:=by rw[←t.body,←u.body,hb,show t.hd=u.hd from e5]
 obtain⟨a,b,c,d⟩:=t
 obtain⟨a',b',c',d'⟩:=u
 simp only at e1 e2 e3 hv
 subst e1 e2 e3 hv
 exact⟨rfl,List.append_cancel_left h⟩
def Tv.el (at':Nat) (t:Tv):El:=⟨t.c,t.n,t.k,at',at'+t.hd,at'+t.enc.length⟩
theorem Wy {b pre rest:List UInt8} {t:Tv} {en:Nat} (ht:t.ok) (hb:b.take en=pre++(t.enc++rest)) (hen:en≤b.length):nxS b pre.length en=⟨t.el pre.length,0,0⟩:=by
 have hd:(b.drop pre.length).take (en-pre.length)=t.enc++rest:=by
  rw[←List.drop_take,hb,List.drop_left]
 have hl:en=pre.length+(t.enc++rest).length:=by
  have:=congrArg List.length hb
  rw[List.length_take,List.length_append] at this;omega
 rw[List.length_append] at hl
 have hr:=Tv.rh ht rest
 rw[←hd] at hr
 rw[cM hr rfl (by have:=t.len;show t.hd+t.v.length≤_;omega)]
 simp only[Tv.el,Tv.len,Nat.add_assoc]
theorem He {t:Tv} (ht:t.ok):Ap t.enc=⟨t.el 0,0,0⟩:=by
 have h:=Wy (b:=t.enc) (pre:=[]) (rest:=[]) (en:=t.enc.length) ht (by simp) (Nat.le_refl _)
 rw[List.length_nil] at h
 unfold Ap
 rw[h,if_neg]
 rintro⟨-,h2⟩
 simp only[Tv.el] at h2
 omega
def Dh (ts:List Tv):List UInt8:=ts.flatMap Tv.enc
def els:Nat→List Tv→List El
 |_,[]=>[]
 |at',t::r=>t.el at'::els (at'+t.enc.length) r
theorem B5 (t:Tv) (r:List Tv):Dh (t::r)=t.enc++Dh r:=List.flatMap_cons
theorem enc_pos {t:Tv} (h:t.ok):2≤t.enc.length:=by have:=t.hd_pos h;rw[Tv.len];omega
theorem Kb:∀(ts:List Tv) (b pre:List UInt8) (en:Nat),(∀t∈ts,t.ok)→b.take en=pre++Dh ts→en≤b.length→Bg b pre.length en=⟨els pre.length ts,0,0⟩
 |[],b,pre,en,_,hb,hen=>by
  have:=congrArg List.length hb
  rw[List.length_take,List.length_append] at this
  rw[Ob (by show¬pre.length<en;simp[Dh] at this;omega)];rfl
 |t::r,b,pre,en,ht,hb,hen=>by
  have h0:=ht t (by simp)
  rw[B5] at hb
  have hx:=Wy h0 hb hen
  have hl:=congrArg List.length hb
  rw[List.length_take,List.length_append,List.length_append] at hl
  have hp:=enc_pos h0
  have ih:=Kb r b (pre++t.enc) en (fun u hu=>ht u (by simp[hu])) (by rw[hb,List.append_assoc]) hen
  rw[List.length_append] at ih
  have hst:(nxS b pre.length en).x.stop=pre.length+t.enc.length:=by rw[hx];rfl
  rw[Mf hen (by omega) (by rw[hx]),hst,ih,if_neg (by simp),hx];rfl
end Go.Proofs.YtngbfblmejjipaaGreatDoor
