/- MI: the texts OidP Pre Str Oid Oid2 OidE OidL OidR OidS Tree Tree2 Tree3 Tree4 T T2 T3 Ref10 Pl, one behind the other. No condition but what each lemma says. -/
import Derived.Lib.ItoaNum
import Derived.Lib.SplitLaws
import Derived.Lib.ParseIntBCases
import Derived.Test.YtgpaehhbdbgeaaaGreatDoorMC
import Derived.Test.YtgpaehhbdbgeaaaGreatDoorME
import Derived.Test.YtgpaehhbdbgeaaaGreatDoorMD
import Derived.Lib.ItoaMem
set_option maxRecDepth 100000
set_option maxHeartbeats 16000000
namespace Go.Proofs.YtgpaehhbdbgeaaaGreatDoor
open Go
def D7:List UInt8→List (List UInt8)
 |[]=>[[]]
 |c::r=>if c=46 then []::D7 r else match D7 r with
  |p::ps=>(c::p)::ps
  |[]=>[[c]]
theorem J7:∀s,∃p ps,D7 s=p::ps
 |[]=>⟨_,_,rfl⟩
 |c::r=>by
  obtain⟨p,ps,h⟩:=J7 r
  unfold D7
  by_cases hc:c=46
  ·rw[if_pos hc];exact⟨_,_,rfl⟩
  ·rw[if_neg hc,h];exact⟨_,_,rfl⟩
open Lib in
theorem U4 {c:UInt8} {r:List UInt8} (hc:c≠46):index (c::r) [46]=if index r [46]== -1 then-1 else index r [46]+1:=by
 rw[index];simp[List.isPrefixOf,Ne.symm hc]
open Lib in
theorem jO {c:UInt8} (hc:c≠46):∀(k:Nat) (r:List UInt8) {p ps},splitK [46] 0 k r=p::ps→splitK [46] 0 k (c::r)=(c::p)::ps
 |0,r,p,ps,h=>by rw[splitK] at h⊢;cases h;rfl
 |k+1,r,p,ps,h=>by
  have hx:=U4 (r:=r) hc
  have hg:=index_ge r [46]
  rw[splitK] at h⊢
  by_cases hm:index r [46]= -1
  ·rw[if_pos (beq_iff_eq.2 hm)] at h
   rw[if_pos (beq_iff_eq.2 hm)] at hx
   rw[if_pos (beq_iff_eq.2 hx)]
   cases h;rfl
  ·rw[if_neg (fun e=>hm (beq_iff_eq.1 e))] at h hx
   rw[if_neg (by rw[beq_iff_eq];omega),hx]
   cases h
   obtain⟨j,hj⟩:∃j:Nat,index r [46]=j:=⟨(index r [46]).toNat,by omega⟩
   rw[hj]
   rw[show((j:Int)+1).toNat=j+1 by omega,show(j:Int).toNat=j by omega]
   simp
open Lib in
theorem Qq:∀s:List UInt8,splitK [46] 0 (s.count 46) s=D7 s
 |[]=>rfl
 |c::r=>by
  obtain⟨p,ps,h⟩:=J7 r
  have ih:=Qq r
  rw[D7]
  by_cases hc:c=46
  ·subst hc
   rw[if_pos rfl,List.count_cons_self,splitK]
   have hx:index (46::r) [46]=0:=by rw[index];simp[List.isPrefixOf]
   rw[if_neg (by rw[hx];decide),hx,←ih]
   simp
  ·rw[if_neg hc,h,List.count_cons_of_ne (fun e=>hc e),jO hc _ _ (ih.trans h)]
open Lib in
theorem Og (s:List UInt8):splitB ⟨#[46]⟩ 0 (countB ⟨⟨s⟩⟩ ⟨#[46]⟩) ⟨⟨s⟩⟩=(D7 s).map fun p=>⟨⟨p⟩⟩:=by
 have h1:=splitB_data ⟨#[46]⟩ 0 (countB ⟨⟨s⟩⟩ ⟨#[46]⟩) ⟨⟨s⟩⟩
 have h2:countB ⟨⟨s⟩⟩ ⟨#[46]⟩=s.count 46:=count_one 46 s
 rw[h2] at h1⊢
 rw[show splitK ((⟨#[46]⟩:ByteArray).data.toList) 0 (s.count 46) ((⟨⟨s⟩⟩:ByteArray).data.toList)=D7 s from Qq s] at h1
 rw[←h1,List.map_map]
 conv=>lhs;rw[←List.map_id (splitB ⟨#[46]⟩ 0 (s.count 46) ⟨⟨s⟩⟩)]
 exact List.map_congr_left fun x _=>rfl
def Ma (l:List UInt8):Option Nat:=match Lib.parseUintB 32 l with
 | .ok u=>if Lib.decDigits u=l then some u else none
 |_=>none
theorem Mb {u:Nat} (h:u<10):(UInt8.ofNat (48+u)).toNat=48+u:=by rw[UInt8.toNat_ofNat'];omega
theorem eD:∀(n:Nat) (b:UInt8),b∈Lib.decDigits n→48≤b.toNat∧b.toNat≤57:=by
 intro n
 induction n using Nat.strongRecOn with
 |_ n ih=>
  intro b hb
  rw[Lib.decDigits] at hb
  by_cases h:n<10
  ·rw[dif_pos h,List.mem_singleton] at hb
   subst hb;rw[Mb h];omega
  ·rw[dif_neg h,List.mem_append,List.mem_singleton] at hb
   rcases hb with hb|hb
   ·exact ih (n/10) (by omega) b hb
   ·subst hb;rw[Mb (by omega)];omega
def Ov (acc:Nat) (l:List UInt8):Nat:=l.foldl (fun a c=>a*10+(c.toNat-48)) acc
theorem J8 (acc:Nat) (c:UInt8) (r:List UInt8):Ov acc (c::r)=Ov (acc*10+(c.toNat-48)) r:=by unfold Ov;rw[List.foldl_cons]
theorem Xy (acc:Nat):Ov acc []=acc:=rfl
theorem Xz (l m:List UInt8) (acc:Nat):Ov acc (l++m)=Ov (Ov acc l) m:=by unfold Ov;exact List.foldl_append
theorem X0 (n:Nat):Ov 0 (Lib.decDigits n)=n:=by
 induction n using Nat.strongRecOn with
 |_ n ih=>
  rw[Lib.decDigits]
  by_cases h:n<10
  ·rw[dif_pos h,J8,Xy,Mb h];omega
  ·rw[dif_neg h,Xz,ih (n/10) (by omega),J8,Xy,Mb (by omega)];omega
theorem eE:∀(l:List UInt8) (acc:Nat),acc≤Ov acc l
 |[],_=>Nat.le_refl _
 |c::r,acc=>by
  have:=eE r (acc*10+(c.toNat-48))
  rw[J8];omega
open Lib in
theorem Te:∀(l:List UInt8) (acc:Nat),(∀b∈l,48≤b.toNat∧b.toNat≤57)→Ov acc l≤4294967295→parseUintM 4294967295 acc l= .ok (Ov acc l)
 |[],_,_,_=>rfl
 |c::r,acc,h1,h2=>by
  have hc:=h1 c (by simp)
  have hg:=eE r (acc*10+(c.toNat-48))
  rw[J8] at h2⊢
  rw[parseUintM,if_pos hc,if_neg (by omega),if_neg (by omega)]
  exact Te r _ (fun b hb=>h1 b (by simp[hb])) h2
theorem yG (n:Nat):Lib.decDigits n≠[]:=by
 intro h
 have:=Lib.decDigits_length n
 have h2:=Lib.nDigits_pos n
 rw[h] at this;simp at this;omega
theorem oW {n:Nat} (h:n≤4294967295):Ma (Lib.decDigits n)=some n:=by
 have h1:=Te (Lib.decDigits n) 0 (eD n) (by rw[X0];exact h)
 rw[X0] at h1
 unfold Ma Lib.parseUintB
 rw[if_neg (yG n),show 2^32-1=4294967295 from rfl,h1]
 simp
theorem jP {l:List UInt8} {n:Nat} (h:Ma l=some n):n≤4294967295∧Lib.decDigits n=l:=by
 unfold Ma at h
 split at h
 ·rename_i u hu
  split at h
  ·rename_i he
   cases h
   exact⟨by have:=Lib.parseUintB_le hu;omega,he⟩
  ·cases h
 ·cases h
def C3:List Nat→Bool
 |x::y::_=>decide (x≤2)&&(if x<2 then decide (y<40) else decide (y≤4294967215))
 |_=>false
def Ei (ps:List (List UInt8)):Option (List Nat):=match ps with
 |[]=>some []
 |p::r=>match Ma p,Ei r with
  |some n,some l=>some (n::l)
  |_,_=>none
def Dv (s:List UInt8):Option (List Nat):=match Ei (D7 s) with
 |some a=>if C3 a then some a else none
 |none=>none
def Ca:List Nat→List UInt8
 |[]=>[]
 |[n]=>Lib.decDigits n
 |n::m::r=>Lib.decDigits n++46::Ca (m::r)
theorem Qr:∀(p:List UInt8),(46:UInt8)∉p→D7 p=[p]
 |[],_=>rfl
 |c::r,h=>by
  have h':c≠46:=fun e=>h (by simp[e])
  rw[D7,if_neg h',Qr r (fun e=>h (by simp[e]))]
theorem Oh:∀(p q:List UInt8),(46:UInt8)∉p→D7 (p++46::q)=p::D7 q
 |[],q,_=>by rw[List.nil_append,D7,if_pos rfl]
 |c::r,q,h=>by
  have h':c≠46:=fun e=>h (by simp[e])
  rw[List.cons_append,D7,if_neg h',Oh r q (fun e=>h (by simp[e]))]
theorem eF (n:Nat):(46:UInt8)∉Lib.decDigits n:=fun h=>by
 have:=eD n _ h
 simp at this
theorem Tf:∀(a:List Nat),a≠[]→D7 (Ca a)=a.map Lib.decDigits
 |[],h=>absurd rfl h
 |[n],_=>by rw[Ca,Qr _ (eF n)];rfl
 |n::m::r,_=>by rw[Ca,Oh _ _ (eF n),Tf (m::r) (by simp)];rfl
theorem Tg:∀(a:List Nat),(∀n∈a,n≤4294967295)→Ei (a.map Lib.decDigits)=some a
 |[],_=>rfl
 |n::r,h=>by
  rw[List.map_cons,Ei,oW (h n (by simp)),Tg r (fun m hm=>h m (by simp[hm]))]
theorem Ej {a:List Nat} (h:C3 a=true):∃x y r,a=x::y::r∧x≤2∧(x<2→y<40)∧y≤4294967215:=by
 match a,h with
 |x::y::r,h=>
  rw[C3,Bool.and_eq_true,decide_eq_true_eq] at h
  refine⟨x,y,r,rfl,h.1,fun hx=> ?_,?_⟩
  ·have:=h.2;rw[if_pos hx,decide_eq_true_eq] at this;exact this
  ·have:=h.2
   by_cases hx:x<2
   ·rw[if_pos hx,decide_eq_true_eq] at this;omega
   ·rw[if_neg hx,decide_eq_true_eq] at this;exact this
theorem bP {a:List Nat} (h:C3 a=true) (hb:∀n∈a,n≤4294967295):Dv (Ca a)=some a:=by
 obtain⟨x,y,r,rfl,-⟩:=Ej h
 rw[Dv,Tf _ (by simp),Tg _ hb]
 exact if_pos h
theorem Qs:∀{ps:List (List UInt8)} {a:List Nat},Ei ps=some a→ps=a.map Lib.decDigits∧∀n∈a,n≤4294967295
 |[],a,h=>by rw[Ei] at h;cases h;simp
 |p::r,a,h=>by
  rw[Ei] at h
  split at h
  ·rename_i n l h1 h2
   cases h
   obtain⟨k1,k2⟩:=jP h1
   obtain⟨k3,k4⟩:=Qs h2
   refine⟨by rw[List.map_cons,k2,←k3],fun m hm=> ?_⟩
   rcases List.mem_cons.1 hm with rfl|hm
   ·exact k1
   ·exact k4 m hm
  ·cases h
theorem jQ:∀(s:List UInt8) (a:List Nat),D7 s=a.map Lib.decDigits→Ca a=s:=by
 intro s
 have gen:∀(s:List UInt8) (p:List UInt8) (ps:List (List UInt8)),D7 s=p::ps→s=p++(ps.flatMap fun q=>46::q):=by
  intro s
  induction s with
  |nil=>intro p ps h;rw[D7] at h;cases h;rfl
  |cons c r ih=>
   intro p ps h
   obtain⟨q,qs,h'⟩:=J7 r
   have h2:=ih q qs h'
   rw[D7] at h
   by_cases hc:c=46
   ·rw[if_pos hc,h'] at h
    cases h
    rw[List.nil_append,List.flatMap_cons,List.cons_append,←h2,hc]
   ·rw[if_neg hc,h'] at h
    cases h
    rw[List.cons_append,←h2]
 intro a h
 have tl:∀(m:Nat) (r:List Nat),Ca (m::r)=Lib.decDigits m++((r.map Lib.decDigits).flatMap fun q=>46::q):=by
  intro m r
  induction r generalizing m with
  |nil=>rw[Ca];simp
  |cons k r ih=>rw[Ca,ih k];simp
 match a,h with
 |[],h=>obtain⟨q,qs,h'⟩:=J7 s;rw[h'] at h;cases h
 |m::r,h=>rw[tl,←gen s _ _ h]
theorem Gq {s:List UInt8} {a:List Nat} (h:Dv s=some a):C3 a=true∧(∀n∈a,n≤4294967295)∧Ca a=s:=by
 unfold Dv at h
 split at h
 ·rename_i a' h1
  split at h
  ·rename_i h2
   cases h
   obtain⟨k1,k2⟩:=Qs h1
   exact⟨h2,k2,jQ s a k1⟩
  ·cases h
 ·cases h
def By (last:Bool) (n:Nat):List UInt8:=
 if h:n<128 then [UInt8.ofNat (n%128+if last then 0 else 128)] else By false (n/128)++[UInt8.ofNat (n%128+if last then 0 else 128)]
termination_by n
decreasing_by omega
theorem Cn (l:Bool) {n:Nat} (h:n<128):By l n=[UInt8.ofNat (n%128+if l then 0 else 128)]:=by rw[By,dif_pos h]
theorem Ey (l:Bool) {n:Nat} (h:¬n<128):By l n=By false (n/128)++[UInt8.ofNat (n%128+if l then 0 else 128)]:=by rw[By,dif_neg h]
def X1:List Nat→List UInt8
 |x::y::r=>By true (40*x+y)++r.flatMap (By true)
 |_=>[]
def Bi:Bool→Nat→List UInt8→Option (List Nat)
 |b,_,[]=>if b then none else some []
 |b,n,x::r=>if b=false∧x=128 then none else if n*128+x.toNat%128>4294967295 then none else if x.toNat<128 then(match Bi false 0 r with
  |some l=>some ((n*128+x.toNat%128)::l)
  |none=>none) else Bi true (n*128+x.toNat%128) r
def D8:List Nat→List Nat
 |[]=>[]
 |n::r=>min (n/40) 2::(n-40*min (n/40) 2)::r
theorem Mc {l:List Nat} (hl:l≠[]) (hb:∀n∈l,n≤4294967295):C3 (D8 l)=true∧(∀n∈D8 l,n≤4294967295)∧X1 (D8 l)=l.flatMap (By true):=by
 match l,hl with
 |n::r,_=>
  have hn:=hb n (by simp)
  refine⟨?_,?_,?_⟩
  ·rw[D8,C3,Bool.and_eq_true,decide_eq_true_eq]
   refine⟨by omega,?_⟩
   split<;>rw[decide_eq_true_eq]<;>omega
  ·intro m hm
   rw[D8,List.mem_cons,List.mem_cons] at hm
   rcases hm with rfl|rfl|hm
   ·omega
   ·omega
   ·exact hb m (by simp[hm])
  ·rw[D8,X1,show 40*min (n/40) 2+(n-40*min (n/40) 2)=n by omega];rfl
def Qt (c:List UInt8):Option (List Nat):=match Bi false 0 c with
 |some (n::r)=>some (D8 (n::r))
 |_=>none
theorem tZ (l:Bool) (n:Nat):By l n≠[]:=by
 rw[By];split<;>simp
theorem AK {n:Nat}:(UInt8.ofNat (n%128+if true=true then 0 else 128)).toNat=n%128:=by
 rw[if_pos rfl,UInt8.toNat_ofNat'];omega
theorem yH {n:Nat}:(UInt8.ofNat (n%128+if false=true then 0 else 128)).toNat=n%128+128:=by
 rw[if_neg (by simp),UInt8.toNat_ofNat'];omega
theorem bQ:∀(n:Nat) (r:List UInt8),1≤n→n≤4294967295→Bi false 0 (By false n++r)=Bi true n r:=by
 intro n
 induction n using Nat.strongRecOn with
 |_ n ih=>
  intro r h1 h2
  have hx:=yH (n:=n)
  by_cases h:n<128
  ·rw[Cn _ h]
   generalize UInt8.ofNat (n%128+if false=true then 0 else 128)=x at hx
   rw[List.singleton_append,Bi,if_neg (by rintro⟨-,rfl⟩;simp at hx;omega),if_neg (by omega),if_neg (by omega)]
   rw[show 0*128+x.toNat%128=n by omega]
  ·rw[Ey _ h,List.append_assoc,List.singleton_append,ih (n/128) (by omega) _ (by omega) (by omega)]
   generalize UInt8.ofNat (n%128+if false=true then 0 else 128)=x at hx
   rw[Bi,if_neg (by simp),if_neg (by omega),if_neg (by omega)]
   rw[show n/128*128+x.toNat%128=n by omega]
theorem jR (n:Nat) (r:List UInt8) (h2:n≤4294967295):Bi false 0 (By true n++r)=(Bi false 0 r).map (n:: ·):=by
 have hx:=AK (n:=n)
 by_cases h:n<128
 ·rw[Cn _ h]
  generalize UInt8.ofNat (n%128+if true=true then 0 else 128)=x at hx
  rw[List.singleton_append,Bi,if_neg (by rintro⟨-,rfl⟩;simp at hx;omega),if_neg (by omega),if_pos (by omega)]
  rw[show 0*128+x.toNat%128=n by omega]
  cases Bi false 0 r<;>rfl
 ·rw[Ey _ h,List.append_assoc,List.singleton_append,bQ _ _ (by omega) (by omega)]
  generalize UInt8.ofNat (n%128+if true=true then 0 else 128)=x at hx
  rw[Bi,if_neg (by simp),if_neg (by omega),if_pos (by omega)]
  rw[show n/128*128+x.toNat%128=n by omega]
  cases Bi false 0 r<;>rfl
theorem Th:∀(l:List Nat),(∀n∈l,n≤4294967295)→Bi false 0 (l.flatMap (By true))=some l
 |[],_=>rfl
 |n::r,h=>by
  rw[List.flatMap_cons,jR n _ (h n (by simp)),Th r (fun m hm=>h m (by simp[hm]))];rfl
theorem Iq:∀(c:List UInt8) (b:Bool) (n:Nat) (l:List Nat),n≤4294967295→(b=true→1≤n)→(b=false→n=0)→Bi b n c=some l→(if b then By false n else [])++c=l.flatMap (By true)∧∀m∈l,m≤4294967295
 |[],b,n,l,_,_,_,h=>by
  cases b
  ·rw[Bi] at h;cases h;simp
  ·rw[Bi] at h;cases h
 |x::r,b,n,l,hn,hb,hb0,h=>by
  rw[Bi] at h
  have hxl:=x.toNat_lt
  by_cases h1:b=false∧x=128
  ·rw[if_pos h1] at h;cases h
  rw[if_neg h1] at h
  by_cases h2:n*128+x.toNat%128>4294967295
  ·rw[if_pos h2] at h;cases h
  rw[if_neg h2] at h
  have hx0:b=false→x.toNat≠128:=fun e e'=>h1 ⟨e,by
   apply UInt8.toNat_inj.1;simpa using e'⟩
  have e1:∀last:Bool,(if last then x.toNat<128 else 128≤x.toNat)→By last (n*128+x.toNat%128)=(if b then By false n else [])++[x]:=by
   intro last hlast
   have hx:UInt8.ofNat ((n*128+x.toNat%128)%128+if last=true then 0 else 128)=x:=by
    apply UInt8.toNat_inj.1
    rw[UInt8.toNat_ofNat']
    cases last<;>simp at hlast⊢ <;>omega
   cases b
   ·have:=hb0 rfl
    subst this
    rw[Cn _ (by omega),hx];rfl
   ·have:=hb rfl
    rw[Ey _ (by omega),hx,show(n*128+x.toNat%128)/128=n by omega];rfl
  by_cases h3:x.toNat<128
  ·rw[if_pos h3] at h
   split at h
   ·rename_i l' hl'
    cases h
    obtain⟨k1,k2⟩:=Iq r false 0 l' (by omega) (by simp) (fun _=>rfl) hl'
    rw[List.flatMap_cons,←k1,e1 true (by simpa using h3)]
    refine⟨by simp,fun m hm=> ?_⟩
    rcases List.mem_cons.1 hm with rfl|hm
    ·omega
    ·exact k2 m hm
   ·cases h
  ·rw[if_neg h3] at h
   have hm:1≤n*128+x.toNat%128:=by
    cases b
    ·have:=hx0 rfl;omega
    ·have:=hb rfl;omega
   obtain⟨k1,k2⟩:=Iq r true _ l (by omega) (fun _=>hm) (by simp) h
   refine⟨?_,k2⟩
   rw[←k1,if_pos rfl,e1 false (by simpa using h3)]
   simp
theorem jS {c:List UInt8} {a:List Nat} (h:Qt c=some a):C3 a=true∧(∀n∈a,n≤4294967295)∧X1 a=c:=by
 unfold Qt at h
 split at h
 ·rename_i n r h1
  cases h
  obtain⟨k1,k2⟩:=Iq c false 0 _ (by omega) (by simp) (fun _=>rfl) h1
  obtain⟨k3,k4,k5⟩:=Mc (l:=n::r) (by simp) k2
  exact⟨k3,k4,by rw[k5,←k1];rfl⟩
 ·cases h
theorem jT {x y:Nat} {r:List Nat} (h:C3 (x::y::r)=true):D8 ((40*x+y)::r)=x::y::r:=by
 obtain⟨x',y',r',e,h1,h2,h3⟩:=Ej h
 cases e
 rw[D8]
 have:min ((40*x+y)/40) 2=x:=by
  by_cases hx:x<2
  ·have:=h2 hx;omega
  ·omega
 rw[this,show 40*x+y-40*x=y by omega]
theorem oX {a:List Nat} (h:C3 a=true) (hb:∀n∈a,n≤4294967295):Qt (X1 a)=some a:=by
 obtain⟨x,y,r,rfl,h1,h2,h3⟩:=Ej h
 have:=Th ((40*x+y)::r) (fun m hm=>by
  rcases List.mem_cons.1 hm with rfl|hm
  ·by_cases hx:x<2
   ·have:=h2 hx;omega
   ·omega
  ·exact hb m (by simp[hm]))
 rw[List.flatMap_cons] at this
 rw[X1,Qt,this]
 simp only[jT h]
def Bj (s:List UInt8):List UInt8:=match Dv s with
 |some a=>X1 a
 |none=>[]
def jU (s:List UInt8):Nat:=match Dv s with
 |some _=>0
 |none=>8
def odT (c:List UInt8):List UInt8:=match Qt c with
 |some a=>Ca a
 |none=>[]
def odC (c:List UInt8):Nat:=match Qt c with
 |some _=>0
 |none=>6
def Ft (s:List UInt8):Bool:=(Dv s).isSome
theorem Nl (s:List UInt8):Ft s=true↔jU s=0:=by
 unfold Ft jU;cases Dv s<;>simp
theorem bR {s:List UInt8} (h:Ft s=true):odT (Bj s)=s∧odC (Bj s)=0:=by
 obtain⟨a,ha⟩:=Option.isSome_iff_exists.1 h
 obtain⟨k1,k2,k3⟩:=Gq ha
 have:=oX k1 k2
 unfold odT odC Bj
 rw[ha]
 simp only[this]
 exact⟨k3,trivial⟩
theorem bS {c:List UInt8} (h:odC c=0):Ft (odT c)=true∧Bj (odT c)=c:=by
 unfold odC at h
 unfold odT Ft Bj
 cases hd:Qt c with
 |none=>rw[hd] at h;cases h
 |some a=>
  obtain⟨k1,k2,k3⟩:=jS hd
  simp only[bP k1 k2]
  exact⟨rfl,k3⟩
end Go.Proofs.YtgpaehhbdbgeaaaGreatDoor
namespace Go.Proofs.YtgpaehhbdbgeaaaGreatDoor
open Go.RowKit
def Qu:Nat→Code→List Code
 |n+1,.seq x y=>x::Qu n y
 |_,_=>[]
def Oi:Nat→Code→Code
 |n+1,.seq _ y=>Oi n y
 |_,c=>c
def oY:List Code→Code→Code
 |[],c=>c
 |x::r,c=> .seq x (oY r c)
theorem X2:∀(n:Nat) (c:Code),oY (Qu n c) (Oi n c)=c
 |0,c=>by cases c<;>rfl
 |n+1,c=>by
  cases c with
  |seq x y=>show Code.seq x (oY (Qu n y) (Oi n y))=_;rw[X2 n y]
  |_=>rfl
def uA (P:Program) (C:Cx):List Code→(AS→Prop)→AS→Prop
 |[],K,σ=>K σ
 |x::r,K,σ=>Bm P C x (nx (uA P C r K) (fun _ _=>False)) σ
theorem eG {P:Program} {C:Cx} {B:Code} {Q:Exit→Act→World→Prop} {K:AS→Prop}:∀{xs:List Code} {σ:AS} {a:Act} {w:World},uA P C xs K σ→G C σ a w→(∀σ' a' w',K σ'→G C σ' a' w'→B.wp P Q a' w')→(oY xs B).wp P Q a w
 |[],σ,a,w,h,hG,k=>k σ a w h hG
 |x::r,σ,a,w,h,hG,k=>wp_seq (wp_mono (h a w hG) fun e a' w' ⟨σ',h1,h2⟩=>by
   cases e with
   |normal=>exact eG (xs:=r) h1 h2 k
   |_=>exact h1.elim)
noncomputable def eH (P:Program) (C:Cx) (T:Tab):List Code→KS→KS
 |[],K=>K
 |x::r,K=>Gm P C T x (eH P C T r K) (fun _ _ _ _=>False) (fun _ _ _=>False)
theorem X3 {P:Program} {C:Cx} {T:Tab} (hT:TabOk P T) (hm:P.follows .mixedOrders=true):∀{xs:List Code} {K:KS} {tm:TM} {bx:BX} {tk:TK},eH P C T xs K tm bx tk→uA P C xs (fun σ=>K σ.tm σ.bx σ.tk) ⟨tm,bx,tk⟩
 |[],K,tm,bx,tk,h=>h
 |x::r,K,tm,bx,tk,h=>Di (O7 hT hm x _ _ _ _ _ _ h) fun e σ he=>by
   cases e with
   |normal=>exact X3 (xs:=r) hT hm he
   |exit id=>exact False.elim he
   |ret=>exact False.elim he
   |goto l=>exact he.elim
   |panic c=>exact he.elim
   |_=>first|exact he.elim|exact he
theorem GG.act {C:Cx} {bm:BM} {gt:Nat→Value} {fp:Nat→Nat→Prop} {σ σ':AS} {a a':Act} {w:World} (h:GG C bm gt fp σ a w) (hsz:a'.tmps.size=C.N) (hdf:a'.defers=[]) (hb:σ'.bx=σ.bx) (hk:σ'.tk=σ.tk)
 (ht:∀t u,lk t σ'.tm=some u→∃v,C.val a' t=some v∧RA C.W.heap.size fp w bm gt u v):GG C bm gt fp σ' a' w:=by
 obtain⟨tm,bx,tk⟩:=σ'
 simp only at hb hk
 subst hb hk
 exact{sz:=hsz,nN:=h.nN,gd:=h.gd,za:=h.za,zb:=h.zb,zf:=h.zf,ztk:=h.ztk,df:=hdf,tm:=ht,bx:=h.bx,bxi:=h.bxi,tk:=h.tk,tki:=h.tki,tkb:=h.tkb,fpb:=h.fpb,fp0:=h.fp0,fpB:=h.fpB,bel:=h.bel}
def Qv (all:List AV):List Nat→TM
 |[]=>[]
 |i::r=>match all[i]? with
  |some u=>(i,u)::Qv all r
  |none=>Qv all r
def oZ (vs:List Value) (tm:TM):List Nat→Prop
 |[]=>True
 |i::r=>(∃v,vs[i]?=some v∧lk i tm=some (.d (.v v)))∧oZ vs tm r
theorem Qw {all:List AV} {t:Nat} {u:AV}:∀{l:List Nat},lk t (Qv all l)=some u→t∈l∧all[t]?=some u
 |[],h=>by cases h
 |i::r,h=>by
  unfold Qv at h
  cases hi:all[i]? with
  |none=>
   rw[hi] at h
   obtain⟨h1,h2⟩:=Qw (l:=r) h
   exact⟨List.mem_cons_of_mem _ h1,h2⟩
  |some x=>
   rw[hi] at h
   by_cases e:i=t
   ·subst e
    rw[Ax] at h;cases h
    exact⟨by simp,hi⟩
   ·rw[A7 _ _ e] at h
    obtain⟨h1,h2⟩:=Qw (l:=r) h
    exact⟨List.mem_cons_of_mem _ h1,h2⟩
theorem Ti {vs:List Value} {tm:TM} {t:Nat}:∀{l:List Nat},oZ vs tm l→t∈l→∃v,vs[t]?=some v∧lk t tm=some (.d (.v v))
 |[],_,h=>by simp at h
 |i::r,hk,h=>by
  rcases List.mem_cons.1 h with rfl|h
  ·exact hk.1
  ·exact Ti hk.2 h
def X4:List AV→List Value→Prop
 |[],[]=>True
 |u::us,v::vs=>(match u with
  | .d (.v x)=>v=x
  |_=>True)∧X4 us vs
 |_,_=>False
theorem X5 {B:Nat} {fp:Nat→Nat→Prop} {w:World} {bm:BM} {gt:Nat→Value}:∀{us:List AV} {vs:List Value},vs.length=us.length→(∀(i:Nat) u v,us[i]?=some u→vs[i]?=some v→RA B fp w bm gt u v)→X4 us vs
 |[],[],_,_=>trivial
 |u::us,v::vs,hl,h=>by
  refine⟨?_,X5 (by simpa using hl) fun i x y hx hy=>h (i+1) x y (by simpa using hx) (by simpa using hy)⟩
  have h0:=h 0 u v rfl rfl
  split
  ·rename_i x;exact h0.val
  ·trivial
 |[],_::_,hl,_=>by simp at hl
 |_::_,[],hl,_=>by simp at hl
def Qx:Nat→List Value→TM
 |_,[]=>[]
 |i,v::vs=>(i,.d (.v v))::Qx (i+1) vs
theorem X6 {t:Nat} {u:AV}:∀(vs:List Value) (i:Nat),lk t (Qx i vs)=some u→i≤t∧∃v,vs[t-i]?=some v∧u= .d (.v v)
 |[],_,h=>by cases h
 |x::vs,i,h=>by
  simp only[Qx,lk] at h
  cases hb:Nat.beq i t with
  |true=>rw[hb] at h;cases h;obtain rfl:=Nat.eq_of_beq_eq_true hb;exact⟨Nat.le_refl _,x,by simp,rfl⟩
  |false=>
   rw[hb] at h
   obtain⟨h1,v,h2,h3⟩:=X6 vs (i+1) h
   refine⟨by omega,v,?_,h3⟩
   have:t-i=(t-(i+1))+1:=by omega
   rw[this,List.getElem?_cons_succ];exact h2
def yI (vs:List Value) (keep:List Nat) (sl n sz:Nat) (e:TypeId) (ds:List D) (σ:AS):Prop:=∃κ,lk sl σ.tm=some (.own κ n sz e ds)∧lk κ σ.tk=some (n,sz,e)∧oZ vs σ.tm keep
theorem uB {P:Program} {C:Cx} {o:Oper} {σ:AS} {bm:BM} {gt:Nat→Value} {fp:Nat→Nat→Prop} {a:Act} {w:World} (hg:GG C bm gt fp σ a w) (hd:∀t,o.dst=some t→t<C.N) {f:FuncId} {fn:Func} {c:Code} {us:List AV} {vs:List Value} {S:AS→Prop} (hf:P.funcs[f]?=some fn) (hb:fn.body=some c) (hn:fn.results.size≤4) (hN:us.length≤fn.ntmps) (hN6:fn.ntmps≤1000000) (hl:vs.length=us.length)
 (hr:∀(i:Nat) u v,us[i]?=some u→vs[i]?=some v→RA C.W.heap.size fp w bm gt u v) (k sl κ n sz:Nat) (e:TypeId) (ds:List D) (keep:List Nat) (hsl:sl<fn.ntmps) (hκ:(AS.mk (inT us σ.tm) σ.bx σ.tk).clean κ=true)
 (hA:∀vs,X4 us vs→∀W fp0 z0,uA P ⟨W,fp0,fn.ntmps,fun _=>none,z0⟩ (Qu k c) (yI vs keep sl n sz e ds) ⟨Qx 0 vs,[],[]⟩)
 (hB:∀gh,Bm P ⟨C.W,C.fp0,fn.ntmps,gh,C.z0⟩ (Oi k c) (mP P fn.results.toList o.dst S) ⟨(sl,.own κ n sz e ds)::(Qv us keep++ghM 1000000 σ.tm),σ.bx,(κ,n,sz,e)::σ.tk⟩) {K:Act→World→Prop} {Q:Exit→Act→World→Prop} (hK:∀σ' a' w',S σ'→G C σ' a' w'→K a' w'):
 o.upon P a K Q (.ok (.enter f vs.toArray) w):=by
 rw[Oper.upon_enter]
 have hcalls:Calls P f vs.toArray w fun e w'=>∃v σ' u,e= .returned v∧S (σ'.ret o.dst u)∧∃bm gt fp a',GG (Cx.inn 1000000 C fn.ntmps a) bm gt fp σ' a' w'∧RA C.W.heap.size fp w' bm gt u v:=by
  refine calls_of_wp hf hb ?_
  have hGin:=hg.inn (M:=1000000) rfl (us:=us) (vs:=vs) hN6 hl hN hr
  have hG0:G ⟨w,fp,fn.ntmps,fun _=>none,bm.z⟩ ⟨Qx 0 vs,[],[]⟩ {tmps:=vs.toArray++Array.replicate (fn.ntmps-vs.toArray.size) undef,defers:=[]} w:=by
   refine⟨⟨fun _=>0,bm.z⟩,fun _=>undef,fp,{sz:= ?_,nN:=hN6,gd:=hg.gdw,za:=fun _ _ x=>x,zb:=fun _ _ x=> .inl x,zf:=hg.zf,ztk:=fun k x hk=>(by cases hk),df:=rfl,tm:=fun t u hu=> ?_,bx:=fun k cs hk=>(by cases hk),bxi:=fun k k' c c' hk=>(by cases hk),tk:=fun k n sz e hk=>(by cases hk),tki:=fun k k' x x' hk=>(by cases hk),tkb:=fun k k' x c hk=>(by cases hk),fpb:=fun b o hf=>⟨.inl hf,(hg.fpb b o hf).2⟩,fp0:=fun _ _ hf=>hf,fpB:=fun b o hf=>(hg.fpb b o hf).2,bel:=Below.refl _ _}⟩
   ·show _=fn.ntmps
    simp;omega
   ·obtain⟨_,v,h2,rfl⟩:=X6 vs 0 hu
    rw[Nat.sub_zero] at h2
    have hlt:=(List.getElem?_eq_some_iff.1 h2).1
    refine⟨v,?_,.d (.v v)⟩
    rw[Cx.val_lt (by omega),Array.getElem?_append_left (by simpa using hlt)]
    simpa using h2
  have hw:(oY (Qu k c) (Oi k c)).wp P (bodyPost P fn (fun e w'=>∃v σ' u,e= .returned v∧S (σ'.ret o.dst u)∧∃bm gt fp a',GG (Cx.inn 1000000 C fn.ntmps a) bm gt fp σ' a' w'∧RA C.W.heap.size fp w' bm gt u v)) {tmps:=vs.toArray++Array.replicate (fn.ntmps-vs.toArray.size) undef,defers:=[]} w:=by
   refine eG (hA vs (X5 hl hr) w fp bm.z) hG0 ?_
   rintro σ1 a1 w1 ⟨κ1,k1,k2,k3⟩ ⟨bm1,gt1,fp1,hg1⟩
   obtain⟨v,hv,hra⟩:=hg1.tm sl _ k1
   have hres:Ks w fp bm.z w1 (.own 0 n sz e ds) v:=by
    refine⟨rfl,fp1,fun _=>gt1 κ1,bm1.z,hg1.fpb,?_,fun n' sz' e' ht=>by cases ht;exact⟨hg1.tk _ _ _ _ k2,hg1.ztk κ1 _ k2⟩,hg1.za,hg1.zf,hg1.zb⟩
    cases hra with|own hra=>exact .own (gt:=fun _=>gt1 κ1) (k:=0) hra
   obtain⟨bm2,gt2,fp2,hg2⟩:=hGin.back (t:=sl) (κ:=κ) hsl hκ hg1.bel hres
   have hg3:GG (Cx.inn 1000000 C fn.ntmps a) bm2 gt2 fp2 ⟨(sl,.own κ n sz e ds)::(Qv us keep++ghM 1000000 σ.tm),σ.bx,(κ,n,sz,e)::σ.tk⟩ a1 w1:=by
    refine hg2.act hg1.sz hg1.df rfl rfl fun t u hu=> ?_
    by_cases est:sl=t
    ·subst est
     rw[Ax] at hu
     cases hu
     obtain⟨v',q1,q2⟩:=hg2.tm sl (.own κ n sz e ds) (by show lk sl ((sl,_)::_)=_;rw[Ax];rfl)
     have e1:v'=v:=by
      rw[Cx.val_lt (by omega)] at q1
      simp only[Act.put] at q1
      have hh:sl<(vs.toArray++Array.replicate (fn.ntmps-vs.toArray.size) undef).size:=by simp;omega
      rw[Array.getElem?_setIfInBounds_self] at q1
      rw[if_pos hh] at q1
      exact(Option.some.inj q1).symm
     subst e1
     refine⟨v',?_,q2⟩
     rw[Cx.val_lt (by omega)] at hv⊢
     exact hv
    ·rw[A7 _ _ est] at hu
     rcases aH hu with hu|hu
     ·obtain⟨m1,m2⟩:=Qw hu
      have htl:=(List.getElem?_eq_some_iff.1 m2).1
      obtain⟨x,x1,x2⟩:=Ti k3 m1
      obtain⟨y,y1,y2⟩:=hg1.tm t _ x2
      have exy:y=x:=y2.val
      subst exy
      have hin:lk t (inM 1000000 us σ.tm)=some u:=by
       have gen:∀(l:List AV) (i:Nat) (m:TM) (j:Nat),l[j]?=some u→lk (i+j) (Et i l++m)=some u:=by
        intro l
        induction l with
        |nil=>intro i m j hj;simp at hj
        |cons q l ih=>
         intro i m j hj
         cases j with
         |zero=>simp at hj;subst hj;show lk i ((i,q)::_)=_;rw[Ax]
         |succ j=>
          show lk (i+(j+1)) ((i,q)::(Et (i+1) l++m))=_
          rw[A7 _ _ (by omega),show i+(j+1)=i+1+j by omega]
          exact ih (i+1) m j (by simpa using hj)
       have:=gen us 0 (ghM 1000000 σ.tm) t m2
       rwa[Nat.zero_add] at this
      obtain⟨z,z1,z2⟩:=hg2.tm t u (by show lk t ((sl,_)::_)=_;rw[A7 _ _ est];exact hin)
      have hzx:z=y:=by
       rw[Cx.val_lt (by omega)] at z1
       simp only[Act.put] at z1
       rw[Array.getElem?_setIfInBounds_ne est,Array.getElem?_append_left (by simp;omega)] at z1
       have:vs[t]?=some z:=by simpa using z1
       rw[x1] at this;exact(Option.some.inj this).symm
      subst hzx
      refine⟨z,?_,z2⟩
      rw[Cx.val_lt (by omega)] at y1⊢
      exact y1
     ·obtain⟨g1,g2⟩:=aG hu
      have hin:lk t (inM 1000000 us σ.tm)=some u:=by
       have gen:∀(l:List AV) (i:Nat) (m:TM),i+l.length≤t→lk t (Et i l++m)=lk t m:=by
        intro l
        induction l with
        |nil=>intro i m _;rfl
        |cons q l ih=>
         intro i m hle
         rw[List.length_cons] at hle
         show lk t ((i,q)::(Et (i+1) l++m))=_
         rw[A7 _ _ (by omega)]
         exact ih (i+1) m (by omega)
       show lk t (Et 0 us++ghM 1000000 σ.tm)=_
       rw[gen us 0 _ (by omega)];exact hu
      obtain⟨z,z1,z2⟩:=hg2.tm t u (by show lk t ((sl,_)::_)=_;rw[A7 _ _ est];exact hin)
      exact⟨z,(Cx.val_ge g1).trans ((Cx.val_ge g1).symm.trans z1),z2⟩
   refine wp_mono (hB _ a1 w1 ⟨bm2,gt2,fp2,hg3⟩) fun e a1 w' ⟨σ',hΦ,bm',gt',fp',hg'⟩=> ?_
   have fin:(∃us,Ig P σ' fn.results.toList us∧S (σ'.ret o.dst (single us)))→bodyPost P fn (fun e w'=>∃v σ' u,e= .returned v∧S (σ'.ret o.dst u)∧∃bm gt fp a',GG (Cx.inn 1000000 C fn.ntmps a) bm gt fp σ' a' w'∧RA C.W.heap.size fp w' bm gt u v) .ret a1 w':=by
    rintro⟨us',h1,h2⟩
    obtain⟨v,hrun,hra⟩:=Jc hg' h1 hn
    exact⟨hg'.df,v,hrun,v,σ',single us',rfl,h2,bm',gt',fp',a1,hg',hra⟩
   cases e with
   |normal=>exact fin hΦ
   |ret=>exact fin hΦ
   |_=>exact hΦ.elim
  rw[X2] at hw
  exact hw
 refine hcalls.mono ?_
 rintro e w' ⟨v,σ',u,rfl,hS,bm',gt',fp',a',hg',hra⟩
 simp only[]
 have ho:=hg'.out (M:=1000000) rfl hg.sz hg.nN hg.df
 refine hK _ _ _ hS ?_
 unfold AS.ret
 cases hdd:o.dst with
 |none=>exact⟨bm',gt',fp',ho⟩
 |some t=>exact⟨bm',gt',fp',ho.put (t:=t) (hd t hdd) hra⟩
theorem Qy {P:Program} {C:Cx} {T:Tab} {o:Oper} {tm:TM} {bx:BX} {tk:TK} {f:FuncId} {s:Nat} {fs cs:List AV} {fn:Func} {c:Code} {args:Array Operand} {ats:Array TypeId} {us:List AV} {K:KS} (k sl κ n sz:Nat) (e:TypeId) (ds:List D) (keep:List Nat) (off N:Nat) (rs:Array ResultVar) (hT:TabOk P T) (hm:P.follows .mixedOrders=true) (ho:o.op= .call {callee:= .value (.tmp s),args:=args,argTypes:=ats}) (hd:S5 o.dst C.N=true)
 (hv:evT tm (.tmp s)=some (.cl f fs cs)) (hu:evL ⟨tm,bx,tk⟩ args.toList=some us) (hf:P.funcs[f]?=some fn) (hN:fn.ntmps=N) (hn0:(fn.name== "runtime.NumGoroutine")=false) (hb:fn.body=some c) (hr:fn.results=rs) (hn:Nat.ble rs.size 4=true) (hA:(Nat.ble (fs++us++cs).length N&&Nat.ble N 1000000&&Nat.blt sl N)=true)
 (hκ:(AS.mk (inT (fs++us++cs) tm) bx tk).clean κ=true)
 (h1:∀vs,X4 (fs++us++cs) vs→∀W fp0 z0,eH P ⟨W,fp0,N,fun _=>none,z0⟩ T (Qu k c) (fun tm bx tk=>yI vs keep sl n sz e ds ⟨tm,bx,tk⟩) (Qx 0 vs) [] [])
 (h2:∀gh,Bx ((sl,.own κ n sz e ds)::(Qv (fs++us++cs) keep++ghM 1000000 tm)) (fun tm=>Gm P ⟨C.W,C.fp0,N,gh,C.z0⟩ ⟨T.ty,T.fd,T.st,T.mu,off⟩ (Oi k c) (Ht T rs o.dst K) (fun _ _ _ _=>False) (Ht T rs o.dst K) tm bx ((κ,n,sz,e)::tk))):NStep P C o tm bx tk K:=by
 simp only[Bool.and_eq_true] at hA
 subst hN hr
 refine⟨fun σ'=>K σ'.tm σ'.bx σ'.tk,?_,fun σ' h=>h⟩
 rintro a w ⟨bm,gt,fp,hg⟩ K' Q hK
 obtain⟨hl,hr⟩:=hg.evA hu
 have hv0:=hg.eval (x:= .tmp s) (Ar hv)
 generalize hvv:a.eval (.tmp s)=v at hv0
 cases hv0 with
 |cl ms ns h3 h4 h6 h7=>
  have hrun:(execOp a.eval o).run P w= .ok (.enter f (ms++args.toList.map a.eval++ns).toArray) w:=by
   simp only[execOp,ho,resolve,hvv,Deferred.ofValue,invoke,Sem.run_bind,Sem.run_pure,Result.andThen_ok,Jd hf hn0 hb]
   obtain⟨l⟩:=args
   simp
  unfold Oper.wp
  rw[hrun]
  have app:∀{l1 l2:List AV} {m1 m2:List Value},m1.length=l1.length→m2.length=l2.length→(∀(i:Nat) u v,l1[i]?=some u→m1[i]?=some v→RA C.W.heap.size fp w bm gt u v)→(∀(i:Nat) u v,l2[i]?=some u→m2[i]?=some v→RA C.W.heap.size fp w bm gt u v)→∀(i:Nat) u v,(l1++l2)[i]?=some u→(m1++m2)[i]?=some v→RA C.W.heap.size fp w bm gt u v:=by
   intro l1 l2 m1 m2 e1 e2 r1 r2 i u v hu hv
   by_cases hi:i<l1.length
   ·rw[List.getElem?_append_left hi] at hu
    rw[List.getElem?_append_left (by omega)] at hv
    exact r1 i u v hu hv
   ·rw[List.getElem?_append_right (by omega)] at hu
    rw[List.getElem?_append_right (by omega)] at hv
    rw[e1] at hv
    exact r2 _ u v hu hv
  refine uB (us:=fs++us++cs) hg (fun t ht=>by unfold S5 at hd;rw[ht] at hd;exact ltN hd) hf hb (leN hn) (leN hA.1.1) (leN hA.1.2) ?_ (app (by rw[List.length_append,List.length_append,h3,hl]) h4 (app h3 hl h6 hr) h7) k sl κ n sz e ds keep (ltN hA.2) hκ (fun vs hvs W fp0 z0=>X3 hT hm (h1 vs hvs W fp0 z0)) (fun gh=> ?_) hK
  ·simp only[List.length_append];omega
  ·have hg:=A2 (K:=fun tm=>Gm P ⟨C.W,C.fp0,fn.ntmps,gh,C.z0⟩ ⟨T.ty,T.fd,T.st,T.mu,off⟩ (Oi k c) (Ht T fn.results o.dst K) (fun _ _ _ _=>False) (Ht T fn.results o.dst K) tm bx ((κ,n,sz,e)::tk)) (h2 gh)
   refine Di (O7 (T:=⟨T.ty,T.fd,T.st,T.mu,off⟩) ⟨hT.ty,hT.fd,hT.st⟩ hm (Oi k c) _ _ _ _ _ _ hg) fun e σ he=> ?_
   cases e with
   |normal=>exact Ly hT he
   |exit id=>exact False.elim he
   |ret=>exact Ly hT he
   |goto l=>exact he.elim
   |panic c=>exact he.elim
   |_=>first|exact he.elim|exact he
abbrev sx (l:List UInt8):AV:= .d (.v (.string ⟨⟨l⟩⟩))
def Sk (l:List UInt8):List D:=[.v (.string ⟨⟨l⟩⟩)]
def Qz (t:Bool) (ps:List (List UInt8)):D:=Fe t 1 Sk ps
theorem X7 (t:Bool) (ps:List (List UInt8)):(Qz t ps).un=Qz false ps:=Hf (fun _=>rfl) t 1 ps
theorem X8 (ps:List (List UInt8)) (i:Nat):(ps.flatMap Sk)[i]?=(ps[i]?).map fun p=>D.v (.string ⟨⟨p⟩⟩):=by
 have:ps.flatMap Sk=ps.map fun p=>D.v (.string ⟨⟨p⟩⟩):=by
  induction ps with
  |nil=>rfl
  |cons p r ih=>rw[List.flatMap_cons,ih];rfl
 rw[this,List.getElem?_map]
theorem Q0 (ps:List (List UInt8)):(ps.flatMap Sk).length=ps.length:=by
 induction ps with
 |nil=>rfl
 |cons p r ih=>rw[List.flatMap_cons,List.length_append,ih,List.length_cons];simp[Sk];omega
theorem Md (s:List UInt8):(D7 s).length≤s.length+1:=by
 induction s with
 |nil=>simp[D7]
 |cons c r ih=>
  rw[D7]
  split
  ·simp only[List.length_cons];omega
  ·obtain⟨p,ps,h⟩:=J7 r
   rw[h] at ih⊢
   simp only[List.length_cons] at ih⊢;omega
theorem U5 (s:List UInt8) (hs:s.length≤4000000):Ab Tryz.prog 206 [.d (.v (.string ⟨⟨s⟩⟩)),.d (.v (.string ⟨#[46]⟩))] (fun r=>r= .d (Qz true (D7 s))):=by
 refine .of Tryz.func206 (by kernel_rfl) rfl rfl fun w fp0 bm gt vs hG hr=> ?_
 match vs,hr with
 |[a,b],hr=>
  rw[hr.1.val,hr.2.1.val]
  obtain⟨m,hm⟩:=hG.ml
  refine(Tryz.strings_Split ⟨⟨s⟩⟩ ⟨#[46]⟩ m w (by show s.length<_;omega) hm (by decide)).mono ?_
  rintro e w' ⟨rfl,rfl⟩
  rw[Og]
  have hl:Lib.countB ⟨⟨s⟩⟩ ⟨#[46]⟩+1=(D7 s).length:=by
   have h1:=Lib.splitB_all ⟨#[46]⟩ (by decide) 0 _ ⟨⟨s⟩⟩ rfl
   rw[Og,List.length_map] at h1
   exact h1.symm
  rw[hl]
  have hd:=Md s
  refine⟨_,rfl,(Below.refl _ _).alloc (Nat.le_refl _) _,fun fp hfp hnew bm gt=> .d ?_⟩
  refine .sl ((D7 s).map fun p=> .string ⟨⟨p⟩⟩) (Nat.le_refl _) (by unfold maxLen;omega) (by rw[Q0,Nat.mul_one]) (by rw[Q0,List.length_map]) (fun h=>by cases h) (fun u hu=> ?_) (fun i d u hd hu=> ?_) (fun i u hu=> ?_)
  ·obtain⟨p,-,rfl⟩:=List.mem_map.1 hu;rfl
  ·rw[X8] at hd
   rw[List.getElem?_map] at hu
   cases hp:(D7 s)[i]? with
   |none=>rw[hp] at hd;cases hd
   |some p=>rw[hp] at hd hu;cases hd;cases hu;exact .v _
  ·refine⟨w.heap.size,0,rfl,hnew _ _ (Nat.le_refl _) (by rw[World.size_alloc];omega),fun _=>Nat.le_refl _,?_⟩
   rw[World.cell?_alloc_new,Nat.zero_add]
   simpa[List.map_map,Function.comp_def] using hu
def AL:(Nat→Nat→Prop)→World→Value→Prop:=fun _ _ v=>∃t p,v= .iface t p
def jV:AV:= .sem AL
def AM:AV:= .d (.v .nilIface)
def puA (l:List UInt8):AV:=match Lib.parseUintB 32 l with
 | .ok u=> .tup [.d (.v (.int .u64 u)),AM]
 |Lib.NumEnd.syntax=> .tup [.d (.v (.int .u64 0)),jV]
 | .range=> .tup [.d (.v (.int .u64 4294967295)),jV]
theorem pA {B:Nat} {fp:Nat→Nat→Prop} {w:World} {bm:BM} {gt:Nat→Value} (t:TypeId) (p:Value):RA B fp w bm gt jV (.iface t p):= .sem rfl fun _ _ _ _ _=>⟨t,p,rfl⟩
theorem bT (l:List UInt8) (hl:l.length≤4000000):Ab Tryz.prog 207 [.d (.v (.string ⟨⟨l⟩⟩)),iv 10,iv 32] (fun r=>r=puA l):=by
 have hs:(⟨⟨l⟩⟩:ByteArray).size=l.length:=rfl
 unfold puA
 have hh:(∃u,Lib.parseUintB 32 l= .ok u)∨Lib.parseUintB 32 l=Lib.NumEnd.syntax∨Lib.parseUintB 32 l= .range:=by
  cases Lib.parseUintB 32 l
  ·exact .inl ⟨_,rfl⟩
  ·exact .inr (.inl rfl)
  ·exact .inr (.inr rfl)
 rcases hh with⟨u,hp⟩|hp|hp<;>rw[hp]
 ·
  refine .of Tryz.func207 (by kernel_rfl) rfl rfl fun w fp0 bm gt vs hG hr=> ?_
  match vs,hr with
  |[a,b,c],hr=>
   rw[hr.1.val,hr.2.1.val,hr.2.2.1.val]
   refine(Tryz.strconv_ParseUint_10_at32_ok ⟨⟨l⟩⟩ (by rw[hs];omega) u hp w).mono ?_
   rintro e w' ⟨rfl,hw⟩
   refine⟨_,rfl,?_,fun fp _ _ bm gt=> .tup [_,_] rfl fun i x v hx hv=> ?_⟩
   ·rcases hw with rfl|rfl
    ·exact Below.refl _ _
    ·exact Lib.bytesWorld_below _ _ _
   ·match i with
    |0=>simp at hx hv;subst hx hv;exact .d (.v _)
    |1=>simp at hx hv;subst hx hv;exact .d (.v _)
 ·
  refine .of Tryz.func207 (by kernel_rfl) rfl rfl fun w fp0 bm gt vs hG hr=> ?_
  match vs,hr with
  |[a,b,c],hr=>
   rw[hr.1.val,hr.2.1.val,hr.2.2.1.val]
   obtain⟨ev,h1,h2⟩:=hG.syn
   refine(Tryz.strconv_ParseUint_10_at32_syntax ⟨⟨l⟩⟩ (by rw[hs];omega) hp ev w h1 h2).mono ?_
   rintro e w' ⟨N,rfl,-,-,hb⟩
   refine⟨_,rfl,hb,fun fp _ _ bm gt=> .tup [_,_] rfl fun i x v hx hv=> ?_⟩
   match i with
   |0=>simp at hx hv;subst hx hv;exact .d (.v _)
   |1=>simp at hx hv;subst hx hv;exact pA _ _
 ·
  refine .of Tryz.func207 (by kernel_rfl) rfl rfl fun w fp0 bm gt vs hG hr=> ?_
  match vs,hr with
  |[a,b,c],hr=>
   rw[hr.1.val,hr.2.1.val,hr.2.2.1.val]
   obtain⟨ev,h1,h2⟩:=hG.rng
   refine(Tryz.strconv_ParseUint_10_at32_range ⟨⟨l⟩⟩ (by rw[hs];omega) hp ev w h1 h2).mono ?_
   rintro e w' ⟨N,rfl,-,-,hb⟩
   refine⟨_,rfl,hb,fun fp _ _ bm gt=> .tup [_,_] rfl fun i x v hx hv=> ?_⟩
   match i with
   |0=>simp at hx hv;subst hx hv;exact .d (.v _)
   |1=>simp at hx hv;subst hx hv;exact pA _ _
open Go.Sort Go.Lib in
theorem jW (u:Nat) (hu64:u<18446744073709551616) (w:World) (htab:Lib.TabIs Tryz.prog w "internal/strconv.uint64pow10" .u64 Lib.pow10Tab):
 Calls Tryz.prog 240 #[.int .u64 u,.int .i64 10] w fun e w'=>e= .returned (.string ⟨(Lib.decDigits u).toArray⟩)∧Below w.heap.size w w':=by
 by_cases hs:u<100
 ·have d1:decide ((u:Int)<100)=true:=decide_eq_true (by omega)
  have w1:IntKind.i64.wrap (u:Int)=(u:Int):=IntWalk.i64_in _ (by omega)
  have hc:=fun w=>Tryz.internal_strconv_small u hs w
  go_enter Tryz.func240,Tryz.ntmps240
  go_wp2_with (go_at_call 266;refine(hc _).mono ?_;rintro e w' ⟨rfl,rfl⟩)
  go_ret
  exact⟨rfl,Below.refl _ _⟩
 ·have d1:decide ((u:Int)<100)=false:=decide_eq_false (by omega)
  have hnd20:Lib.nDigits u≤20:=by have:=Lib.numDigits_eq u (by omega) hu64;split at this<;>omega
  have hal:Tryz.prog.arrayLen 307=24:=by simp[Program.arrayLen,Tryz.underlying307]
  have hsl1:∀W,(Instr.sliceAt 307 (.pointer (some ⟨w.heap.size,0,none⟩)) none (some (.int .i64 (Lib.nDigits u:Int))) none).run Tryz.prog W= .ok (.slice (some ⟨w.heap.size,0,none⟩) (Lib.nDigits u) 24) W:=fun W=>by
   rw[run_sliceAt_array_h W 307 ⟨w.heap.size,0,none⟩ (by simp[Program.arrayLen,Program.elem,Tryz.underlying307]) .i64 (Lib.nDigits u:Int) (by omega) (by rw[hal];omega)]
   rw[hal];simp[Program.elem,Tryz.underlying307,Tryz.sizeOf5,Result.andThen,slicedAt,Lib.add_plain]
  have hH0:Holds (fun(b:UInt8)=>Value.int .u8 (b.toNat:Int)) (w.alloc (.cells Lib.zeros24 307)) w.heap.size 0 (Array.replicate (Lib.nDigits u) (0:UInt8)):=fun i hi=>by
   simp only[Array.size_replicate] at hi
   refine⟨?_,World.frozen?_alloc_new _ _ _ _⟩
   rw[World.cell?_alloc_new,Nat.zero_add,Lib.zeros24_at i (by omega)]
   simp[hi]
  have hfmt:=Tryz.internal_strconv_formatBase10 w.heap.size 0 24 u (Array.replicate (Lib.nDigits u) 0) (w.alloc (.cells Lib.zeros24 307)) hH0 (by rw[Array.size_replicate];exact Lib.lt_pow_nDigits u) hu64 (by rw[Array.size_replicate];omega)
  rw[Array.size_replicate] at hfmt
  have HH0:=Lib.hid hH0
  clear hH0 hal
  go_enter Tryz.func240,Tryz.ntmps240
  go_wp2_with (first
   |(go_at_call 267;refine(Tryz.internal_strconv_numDigits u (by omega) hu64 _ (Lib.tabIs_alloc htab _)).mono ?_;rintro e w' ⟨rfl,rfl⟩))
  go_at_call 268
  refine hfmt.mono ?_
  rintro e w' ⟨rfl,k,v',dk,rfl,hF⟩
  have hcv:(convert 33 9 (.slice (some ⟨w.heap.size,0,none⟩) (Lib.nDigits u) 24)).run Tryz.prog ((putRow (fun(b:UInt8)=>Value.int .u8 (b.toNat:Int)) (w.alloc (.cells Lib.zeros24 307)) w.heap.size 0 dk).drewN k)= .ok (.string ⟨(Lib.decDigits u).toArray⟩) ((putRow (fun(b:UInt8)=>Value.int .u8 (b.toNat:Int)) (w.alloc (.cells Lib.zeros24 307)) w.heap.size 0 dk).drewN k):=by
   have h:=run_convert_bytes_back (P:=Tryz.prog) ((putRow (fun(b:UInt8)=>Value.int .u8 (b.toNat:Int)) (w.alloc (.cells Lib.zeros24 307)) w.heap.size 0 dk).drewN k) 33 9 5 ⟨w.heap.size,0,none⟩ 24 (Lib.decDigits u) Tryz.underlying33 Tryz.underlying5 Tryz.underlying9 (fun j hj=>by
    rw[Lib.row_is_numeral hF j hj,Lib.add_plain,World.cell?_drewN]
    exact cell?_putRow (fun(b:UInt8)=>Value.int .u8 (b.toNat:Int)) _ w.heap.size 0 _ dk HH0.out (by rw[hF.size,Array.size_replicate]) j (by rw[hF.size];rw[Lib.decDigits_length] at hj;exact hj))
   rw[Lib.decDigits_length] at h
   exact h
  go_wp2
  go_ret
  refine⟨rfl,?_⟩
  refine⟨rfl,rfl,rfl,?_,fun i hi=> ?_⟩
  ·show _≤(putRow _ _ _ _ _).heap.size
   rw[Sort.size_putRow,World.size_alloc];omega
  ·show(putRow _ _ _ _ _).heap[i]?=_
   simp only[putRow,mapBlock,Array.getElem?_modify]
   rw[if_neg (by omega)]
   exact Below.heap_alloc w _ i hi
theorem AN (d:Nat) (w:World):(Op.equalIn (d+1) 249 .nilIface .nilIface).run Tryz.prog w= .ok true w:=by
 simp[Op.equalIn,Sem.run_bind,run_underlying Tryz.underlying249,Result.andThen]
theorem AO (d:Nat) (t:TypeId) (p:Value) (w:World):(Op.equalIn (d+1) 249 (.iface t p) .nilIface).run Tryz.prog w= .ok false w:=by
 simp[Op.equalIn,Sem.run_bind,run_underlying Tryz.underlying249,Result.andThen]
theorem pB (x:Operand) (w:World):(do eqGuard .neq 249 x (.const .nilIface) .nilIface .nilIface;binOp .neq 249 .nilIface .nilIface:Sem Value).run Tryz.prog w= .ok (.bool false) w:=by
 have e:∀w,(Op.equal 249 .nilIface .nilIface).run Tryz.prog w= .ok true w:=fun w=>AN 9999 w
 simp[eqGuard,Result.andThen,binOp,e]
theorem pC (x:Operand) (t:TypeId) (p:Value) (w:World):(do eqGuard .neq 249 x (.const .nilIface) (.iface t p) .nilIface;binOp .neq 249 (.iface t p) .nilIface:Sem Value).run Tryz.prog w= .ok (.bool true) w:=by
 have e:∀w,(Op.equal 249 (.iface t p) .nilIface).run Tryz.prog w= .ok false w:=fun w=>AO 9999 t p w
 simp[eqGuard,Result.andThen,binOp,e]
section
variable {C:Cx} {o:Oper} {σ:AS} {t:Nat}
theorem Q1 {yt:TypeId} {x:Operand} (ho:o.op= .binOp .neq 249 x (.const .nilIface) yt) (hd:o.dst=some t) (ht:t<C.N) (hx:σ.eval x=some AM):At Tryz.prog C o σ (σ.put t (bv false)):=
 Am hd ht fun a w bm gt fp hg=>⟨_,by
  have h1:=(hg.eval hx).val
  have h2:a.eval (.const .nilIface)= .nilIface:=rfl
  simp only[execOp,ho,h1,h2]
  rw[Sem.run_bind,pB x w]
  rfl,.d (.v _)⟩
theorem bU {yt:TypeId} {x:Operand} (ho:o.op= .binOp .neq 249 x (.const .nilIface) yt) (hd:o.dst=some t) (ht:t<C.N) (hx:σ.eval x=some jV):At Tryz.prog C o σ (σ.put t (bv true)):=
 Am hd ht fun a w bm gt fp hg=>by
  have h:=hg.eval hx
  generalize hv:a.eval x=v at h
  unfold jV at h
  cases h with
  |sem _ h=>
   obtain⟨ti,p,rfl⟩:=h bm.z w (fun _ _ h=>h) (fun _ _ _=>rfl) (NC.refl w)
   refine⟨_,?_,.d (.v _)⟩
   have h2:a.eval (.const .nilIface)= .nilIface:=rfl
   simp only[execOp,ho,hv,h2]
   rw[Sem.run_bind,pC x ti p w]
   rfl
end
theorem pD (u:Nat) (hu:u<18446744073709551616):Ab Tryz.prog 240 [.d (.v (.int .u64 u)),iv 10] (fun r=>r=sx (Lib.decDigits u)):=by
 refine .of Tryz.func240 (by kernel_rfl) rfl rfl fun w fp0 bm gt vs hG hr=> ?_
 match vs,hr with
 |[a,b],hr=>
  rw[hr.1.val,hr.2.1.val]
  refine(jW u hu w hG.pow).mono ?_
  rintro e w' ⟨rfl,hb⟩
  exact⟨_,rfl,hb,fun fp _ _ bm gt=> .d (.v _)⟩
theorem eI (u:Nat) (hu:u<18446744073709551616):Ab Tryz.prog 208 [.d (.v (.int .u64 u)),iv 10] (fun r=>r=sx (Lib.decDigits u)):=by
 have h:=pD u hu
 refine acQ 8 Tryz.func208 rfl rfl fun _ _ _=> ?_
 (repeat'((conv=>whnf);refine NCall.eq h rfl ?_));(all_goals(conv=>whnf))
 all_goals exact NEnd.eq leQ
theorem pE (ps:List (List UInt8)) (h0:ps≠[]) (hn:ps.length≤4000000) (hl:(Lib.join ps [46]).length≤100000000):Ab Tryz.prog 273 [.d (Qz false ps),.d (.v (.string ⟨#[46]⟩))] (fun r=>r=sx (Lib.join ps [46])):=by
 refine .of Tryz.func273 (by kernel_rfl) rfl rfl fun w fp0 bm gt vs hG hr=> ?_
 match vs,hr with
 |[a,b],hr=>
  rw[hr.2.1.val]
  have h1:=hr.1
  generalize hq:AV.d (Qz false ps)=q at h1
  cases h1 with
  |d h1=>
   cases hq
   unfold Qz Fe at h1
   generalize hq:D.sl false ps.length 1 (ps.flatMap Sk)=q at h1
   cases h1 with
   |sl us k1 k2 k3 k4 k5 k6 k7 k8=>
    cases hq
    rw[Q0] at k4
    obtain⟨p,r,rfl⟩:∃p r,ps=p::r:=by cases ps with|nil=>exact absurd rfl h0|cons p r=>exact⟨p,r,rfl⟩
    have hus0:0<us.length:=by rw[k4];simp
    have hus:us[0]?=some us[0]:=List.getElem?_eq_getElem hus0
    obtain⟨bk,o,rfl,-,-,hc0⟩:=k8 0 _ hus
    have hlt:bk<w.heap.size:=World.block_lt_of_cell? w _ hc0
    have hm:((p::r).map fun p=>(⟨⟨p⟩⟩:ByteArray)).map (·.data.toList)=p::r:=by rw[List.map_map];exact List.map_id _
    have hJ:=Tryz.strings_Join bk o _ ((p::r).map fun p=>⟨⟨p⟩⟩) ⟨#[46]⟩ w (fun j x hx=> ?_) hlt (by rw[List.length_map];omega) (by rw[List.length_map];exact k1) (by rw[hm];show(Lib.join (p::r) [46]).length≤_;omega)
    ·rw[hm,List.length_map] at hJ
     refine hJ.mono ?_
     rintro e w' ⟨rfl,hb⟩
     exact⟨_,rfl,hb,fun fp _ _ bm gt=> .d (.v _)⟩
    ·rw[List.getElem?_map,Option.map_eq_some_iff] at hx
     obtain⟨y,hy,rfl⟩:=hx
     have hj:j<us.length:=by rw[k4];exact(List.getElem?_eq_some_iff.1 hy).1
     have hu:us[j]?=some us[j]:=List.getElem?_eq_getElem hj
     obtain⟨b',o',e1,-,-,e4⟩:=k8 j _ hu
     cases e1
     rw[e4]
     have:=k7 j (.v (.string ⟨⟨y⟩⟩)) us[j] (by rw[X8,hy];rfl) hu
     generalize us[j]=z at this
     cases this;rfl
   |v=>cases hq
   |cp=>cases hq
   |fn=>cases hq
  |ptr=>cases hq
  |own=>cases hq
  |agg=>cases hq
  |tup=>cases hq
  |sem=>cases hq
  |cl=>cases hq
  |pk=>cases hq
theorem Nm:∀(a:List Nat),Lib.join (a.map Lib.decDigits) [46]=Ca a
 |[]=>rfl
 |[n]=>by simp[Lib.join,Ca,List.intercalate]
 |n::m::r=>by
  have ih:=Nm (m::r)
  rw[Ca,←ih]
  simp[Lib.join,List.intercalate]
def bV (n:Nat):List D:=[.v (.int .u32 n)]
def bW (t:Bool) (a:List Nat):D:=Fe t 1 bV a
theorem eJ (t:Bool) (a:List Nat):(bW t a).un=bW false a:=Hf (fun _=>rfl) t 1 a
def jX (n:Nat):List D:=[.v (.int .u64 n)]
def yJ (t:Bool) (a:List Nat):D:=Fe t 1 jX a
theorem eK (t:Bool) (a:List Nat):(yJ t a).un=yJ false a:=Hf (fun _=>rfl) t 1 a
theorem Q2 {α:Type} {f:α→List D} (hf:∀x,D.uns (f x)=f x) (l:List α):D.uns (l.flatMap f)=l.flatMap f:=by
 induction l with
 |nil=>rfl
 |cons x r ih=>rw[List.flatMap_cons,D.uns_eq,List.map_append,←D.uns_eq,←D.uns_eq,hf,ih]
theorem eL (a:List Nat):D.uns (a.flatMap bV)=a.flatMap bV:=Q2 (fun _=>rfl) a
theorem eM (a:List Nat):D.uns (a.flatMap jX)=a.flatMap jX:=Q2 (fun _=>rfl) a
theorem eO (a:List (List UInt8)):D.uns (a.flatMap Sk)=a.flatMap Sk:=Q2 (fun _=>rfl) a
abbrev uv (n:Nat):AV:= .d (.v (.int .u64 n))
abbrev wv (n:Nat):AV:= .d (.v (.int .u32 n))
theorem Me (a:List Nat) (ha:a.length≤1000000000):Ab Tryz.prog 209 [.d (bW false a)] (fun r=>r=bv (C3 a)):=by
 match a,ha with
 |[],_=>
  refine acQ 24 Tryz.func209 rfl rfl fun _ _ _=> ?_
  (repeat'((conv=>whnf);refine NBr.yes ?_));(all_goals(conv=>whnf))
  all_goals exact NEnd.eq leQ
 |[x],_=>
  refine acQ 24 Tryz.func209 rfl rfl fun _ _ _=> ?_
  (repeat'((conv=>whnf);refine NBr.yes ?_));(all_goals(conv=>whnf))
  all_goals exact NEnd.eq leQ
 |x::y::r,ha=>
  have h0:(x::y::r)[0]?=some x:=rfl
  have h1:(x::y::r)[1]?=some y:=rfl
  simp only[List.length_cons] at ha
  by_cases c1:x≤2
  ·have g1:decide ((x:Int)>2)=false:=decide_eq_false (by omega)
   by_cases c2:x<2
   ·have g2:decide ((x:Int)<2)=true:=decide_eq_true (by omega)
    have e:C3 (x::y::r)=decide ((y:Int)<40):=by
     rw[C3,if_pos c2,decide_eq_true c1,Bool.true_and,decide_eq_decide];omega
    rw[e]
    refine acQ 24 Tryz.func209 rfl rfl fun _ _ _=> ?_
    (repeat'((conv=>whnf);first|refine NBr.no ?_|refine NBr.pos asP ?_|refine NBr.neg asP ?_|refine NIdx.tab (fun _=>rfl) h0 ?_|refine NIdx.tab (fun _=>rfl) h1 ?_));(all_goals(conv=>whnf))
    all_goals exact NEnd.eq leQ
   ·have g2:decide ((x:Int)<2)=false:=decide_eq_false (by omega)
    have e:C3 (x::y::r)=decide ((y:Int)≤4294967215):=by
     rw[C3,if_neg c2,decide_eq_true c1,Bool.true_and,decide_eq_decide];omega
    rw[e]
    refine acQ 24 Tryz.func209 rfl rfl fun _ _ _=> ?_
    (repeat'((conv=>whnf);first|refine NBr.no ?_|refine NBr.neg asP ?_|refine NIdx.tab (fun _=>rfl) h0 ?_|refine NIdx.tab (fun _=>rfl) h1 ?_));(all_goals(conv=>whnf))
    all_goals exact NEnd.eq leQ
  ·have g1:decide ((x:Int)>2)=true:=decide_eq_true (by omega)
   have e:C3 (x::y::r)=false:=by rw[C3,decide_eq_false c1];rfl
   rw[e]
   refine acQ 24 Tryz.func209 rfl rfl fun _ _ _=> ?_
   (repeat'((conv=>whnf);first|refine NBr.no ?_|refine NBr.pos asP ?_|refine NIdx.tab (fun _=>rfl) h0 ?_));(all_goals(conv=>whnf))
   all_goals exact NEnd.eq leQ
def X9 (s:List UInt8):AV:=match Dv s with
 |some a=> .tup [.d (bW true a),iv 0]
 |none=> .tup [Ay,iv 11]
theorem J9:∀{ps:List (List UInt8)} {a:List Nat},Ei ps=some a→a.length=ps.length
 |[],a,h=>by rw[Ei] at h;cases h;rfl
 |p::r,a,h=>by
  rw[Ei] at h
  split at h
  ·rename_i n l h1 h2
   cases h
   rw[List.length_cons,List.length_cons,J9 h2]
  ·cases h
theorem Q3:∀{ps:List (List UInt8)} {a:List Nat} {p:List UInt8} {n:Nat},Ei ps=some a→Ma p=some n→Ei (ps++[p])=some (a++[n])
 |[],a,p,n,h,hp=>by rw[Ei] at h;cases h;rw[List.nil_append,Ei,hp];rfl
 |q::r,a,p,n,h,hp=>by
  rw[Ei] at h
  split at h
  ·rename_i m l h1 h2
   cases h
   rw[List.cons_append,Ei,h1,Q3 h2 hp];rfl
  ·cases h
theorem Ld:∀{ps:List (List UInt8)} {p:List UInt8},p∈ps→Ma p=none→Ei ps=none
 |q::r,p,h,hp=>by
  rw[Ei]
  rcases List.mem_cons.1 h with rfl|h
  ·rw[hp]
  ·rw[Ld h hp];cases Ma q<;>rfl
theorem Ka {α:Type} {l:List α} {i:Nat} {x:α} (h:l[i]?=some x):l.take (i+1)=l.take i++[x]:=by
 obtain⟨hlt,he⟩:=List.getElem?_eq_some_iff.1 h
 rw[List.take_succ_eq_append_getElem hlt,he]
theorem AP (a b:List UInt8):(a==b)=decide (a=b):=by
 by_cases h:a=b
 ·subst h;simp
 ·rw[decide_eq_false h];exact beq_false_of_ne h
theorem U6:∀(s p:List UInt8),p∈D7 s→p.length≤s.length
 |[],p,h=>by simp[D7] at h;subst h;simp
 |c::r,p,h=>by
  rw[D7] at h
  split at h
  ·rcases List.mem_cons.1 h with rfl|h
   ·simp
   ·have:=U6 r p h;simp only[List.length_cons];omega
  ·obtain⟨q,qs,hq⟩:=J7 r
   have ih:=U6 r
   rw[hq] at h ih
   rcases List.mem_cons.1 h with rfl|h
   ·have:=ih q (by simp);simp only[List.length_cons];omega
   ·have:=ih p (by simp[h]);simp only[List.length_cons];omega
theorem Q4 {p:Prop} (h:p:=by first|rfl|(simp only[AV.gives,AV.ren,AV.give,D.un,D.uns,Ag,Ai,List.nil_append,List.append_nil,List.cons_append,eJ,X7,eK,Dk,eL,eM,eO];first|done|rfl)):p:=h
theorem Jl (s:List UInt8) (hs:s.length≤4000000):Ab Tryz.prog 162 [sx s] (fun r=>r=X9 s):=by
 have hS:=U5 s hs
 have hdl:=Md s
 have hple:=U6 s
 unfold X9 Dv
 generalize D7 s=ps at hS hdl hple⊢
 refine acQ 39 Tryz.func162 rfl rfl fun _ _ _=> ?_
 (repeat'((conv=>whnf);refine NCall.eq hS rfl ?_));(all_goals(conv=>whnf))
 refine NLoop.goA [.s 4 1 202] (fun p:Nat×List Nat=>p.1≤ps.length∧Ei (ps.take p.1)=some p.2) (fun p=>ps.length-p.1) (fun p=>⟨[(4,Dk 4 1 202 bV p.2),(10,.d (Qz true ps)),(11,iv ps.length),(12,iv p.1)],[],[(4,(p.2.length,1,202))]⟩) (0,[]) ⟨by simp,rfl⟩ leQ ?_
 rintro⟨i,ns⟩ ⟨hi,hns⟩
 simp only at hi hns
 have hnl:=J9 hns
 rw[List.length_take] at hnl
 by_cases hik:i<ps.length
 ·obtain⟨p,hp⟩:∃p,ps[i]?=some p:=⟨_,List.getElem?_eq_getElem hik⟩
  have hpl:=hple p (List.mem_of_getElem? hp)
  have hP:=bT p (by omega)
  unfold puA at hP
  have hh:(∃u,Lib.parseUintB 32 p= .ok u)∨∃n,Ab Tryz.prog 207 [sx p,iv 10,iv 32] (fun r=>r= .tup [uv n,jV])∧Ma p=none:=by
   unfold Ma
   generalize Lib.parseUintB 32 p=q at hP
   cases q with
   |ok u=>exact .inl ⟨u,rfl⟩
   |_=>exact .inr ⟨_,hP,rfl⟩
  rcases hh with⟨u,hu⟩|⟨n,hP',hn⟩
  ·rw[hu] at hP
   have hule:=Lib.parseUintB_le hu
   have hF:=eI u (by omega)
   by_cases hd:Lib.decDigits u=p
   ·have ha:Ma p=some u:=by unfold Ma;rw[hu];exact if_pos hd
    have hne:(!(Lib.decDigits u==p))=false:=by rw[hd];simp
    (repeat'((conv=>whnf);first|refine NBr.no ?_|refine NBr.neg asP ?_|refine NIdx.tab (fun _=>rfl) hp ?_|refine NCall.eq hP rfl ?_|refine NCall.eq hF rfl ?_|refine NStep.go (Q1 rfl rfl (ltN rfl) rfl) ?_|refine NApp.one bV u ?_|(with_reducible refine NInt.i64 ?_)|(with_reducible refine NInt.u32 ?_)|(refine NBr.dec (fun hc hcP=> ?_) (fun hc hcP=> ?_)<;>try(exfalso;omega))));(all_goals(conv=>whnf))
    refine⟨(i+1,ns++[u]),⟨by show i+1≤_;omega,?_⟩,by show ps.length-(i+1)<ps.length-i;omega,?_⟩
    ·show Ei (ps.take (i+1))=_
     rw[Ka hp];exact Q3 hns ha
    ·exact leQ
   ·have ha:Ma p=none:=by unfold Ma;rw[hu];exact if_neg hd
    have hne:(!(Lib.decDigits u==p))=true:=by rw[AP,decide_eq_false hd];rfl
    rw[Ld (List.mem_of_getElem? hp) ha]
    (repeat'((conv=>whnf);first|refine NBr.no ?_|refine NBr.pos asP ?_|refine NIdx.tab (fun _=>rfl) hp ?_|refine NCall.eq hP rfl ?_|refine NCall.eq hF rfl ?_|refine NStep.go (Q1 rfl rfl (ltN rfl) rfl) ?_|(refine NBr.dec (fun hc hcP=> ?_) (fun hc hcP=> ?_)<;>try(exfalso;omega))));(all_goals(conv=>whnf))
    all_goals exact NEnd.eq leQ
  ·rw[Ld (List.mem_of_getElem? hp) hn]
   (repeat'((conv=>whnf);first|refine NBr.yes ?_|refine NIdx.tab (fun _=>rfl) hp ?_|refine NCall.eq hP' rfl ?_|refine NStep.go (bU rfl rfl (ltN rfl) rfl) ?_|(refine NBr.dec (fun hc hcP=> ?_) (fun hc hcP=> ?_)<;>try(exfalso;omega))));(all_goals(conv=>whnf))
   all_goals exact NEnd.eq leQ
 ·obtain rfl:i=ps.length:=by omega
  rw[List.take_length] at hns
  have hR:=Me ns (by omega)
  rw[hns]
  cases hr:C3 ns
  ·rw[hr] at hR
   simp only[hr]
   (repeat'((conv=>whnf);first|refine NBr.yes ?_|refine NCall.eq hR Q4 ?_|(refine NBr.dec (fun hc hcP=> ?_) (fun hc hcP=> ?_)<;>try(exfalso;omega))));(all_goals(conv=>whnf))
   all_goals exact NEnd.eq leQ
  ·rw[hr] at hR
   simp only[hr]
   (repeat'((conv=>whnf);first|refine NBr.no ?_|refine NCall.eq hR Q4 ?_|(refine NBr.dec (fun hc hcP=> ?_) (fun hc hcP=> ?_)<;>try(exfalso;omega))));(all_goals(conv=>whnf))
   all_goals exact NEnd.eq leQ
theorem U7 (s:List UInt8) (hs:s.length≤4000000):Ab Tryz.prog 161 [sx s] (fun r=>r=bv (Ft s)):=by
 have hA:=Jl s hs
 unfold X9 at hA
 unfold Ft
 generalize Dv s=q at hA⊢
 cases q with
 |none=>
  refine acQ 12 Tryz.func161 rfl rfl fun _ _ _=> ?_
  (repeat'((conv=>whnf);refine NCall.eq hA rfl ?_));(all_goals(conv=>whnf))
  all_goals exact NEnd.eq leQ
 |some a=>
  refine acQ 12 Tryz.func161 rfl rfl fun _ _ _=> ?_
  (repeat'((conv=>whnf);refine NCall.eq hA rfl ?_));(all_goals(conv=>whnf))
  all_goals exact NEnd.eq leQ
theorem eP (n:Nat) (hn:n≤4294967295):(Lib.decDigits n).length≤20:=by
 rw[Lib.decDigits_length]
 have:=Lib.nDigits_pos n
 rcases Nat.eq_zero_or_pos n with h|h
 ·subst h;rw[Lib.nDigits_small (by omega)];omega
 ·have:=Lib.numDigits_eq n h (by omega)
  have h2:=this.2
  have h3:=this.1
  split at h3<;>omega
theorem Tj:∀(a:List Nat),(∀n∈a,n≤4294967295)→(Ca a).length≤21*a.length
 |[],_=>by simp[Ca]
 |[n],h=>by
  have:=eP n (h n (by simp))
  rw[Ca,List.length_singleton];omega
 |n::m::r,h=>by
  have h1:=eP n (h n (by simp))
  have h2:=Tj (m::r) (fun x hx=>h x (by simp[hx]))
  rw[Ca,List.length_append,List.length_cons]
  simp only[List.length_cons] at h2⊢
  omega
theorem Ya (a:List Nat) (hb:∀n∈a,n≤4294967295) (ha:a.length≤4000000):Ab Tryz.prog 244 [.d (bW false a)] (fun r=>r=if C3 a then .tup [sx (Ca a),iv 0] else .tup [sx [],iv 8]):=by
 have hR:=Me a (by omega)
 cases hr:C3 a
 ·rw[hr] at hR
  rw[if_neg (by simp)]
  refine acQ 25 Tryz.func244 rfl rfl fun _ _ _=> ?_
  (repeat'((conv=>whnf);first|refine NBr.yes ?_|refine NCall.eq hR Q4 ?_));(all_goals(conv=>whnf))
  all_goals exact NEnd.eq leQ
 ·rw[hr] at hR
  rw[if_pos rfl]
  obtain⟨x,y,r,hxy,-⟩:=Ej hr
  have htl:=Tj a hb
  have hJ:=pE (a.map Lib.decDigits) (by rw[hxy];simp) (by rw[List.length_map];omega) (by rw[Nm];omega)
  rw[Nm] at hJ
  refine acQ 25 Tryz.func244 rfl rfl fun _ _ _=> ?_
  (repeat'((conv=>whnf);first|refine NBr.no ?_|refine NCall.eq hR Q4 ?_));(all_goals(conv=>whnf))
  refine NLoop.goA [.s 4 1 9] (fun i:Nat=>i≤a.length) (fun i=>a.length-i) (fun i=>⟨[(4,Dk 4 1 9 Sk ((a.take i).map Lib.decDigits)),(10,.d (bW false a)),(11,iv a.length),(12,iv i)],[],[(4,(((a.take i).map Lib.decDigits).length,1,9))]⟩) 0 (by simp) leQ ?_
  intro i hi
  by_cases hik:i<a.length
  ·obtain⟨n,hn⟩:∃n,a[i]?=some n:=⟨_,List.getElem?_eq_getElem hik⟩
   have hn2:=hb n (List.mem_of_getElem? hn)
   have hF:=eI n (by omega)
   have hl:((a.take i).map Lib.decDigits).length≤4000000:=by rw[List.length_map,List.length_take];omega
   (repeat'((conv=>whnf);first|refine NIdx.tab (fun _=>rfl) hn ?_|refine NCall.eq hF rfl ?_|refine NApp.one Sk (Lib.decDigits n) ?_|(with_reducible refine NInt.i64 ?_)|(with_reducible refine NInt.u64 ?_)|(refine NBr.dec (fun hc hcP=> ?_) (fun hc hcP=> ?_)<;>try(exfalso;omega))));(all_goals(conv=>whnf))
   refine⟨i+1,by omega,by omega,?_⟩
   rw[Ka hn,List.map_append]
   exact leQ
  ·obtain rfl:i=a.length:=by omega
   rw[List.take_length]
   (repeat'((conv=>whnf);first|refine NCall.eq hJ Q4 ?_|(refine NBr.dec (fun hc hcP=> ?_) (fun hc hcP=> ?_)<;>try(exfalso;omega))));(all_goals(conv=>whnf))
   all_goals exact NEnd.eq leQ
theorem pF {P:Program} {C:Cx} {o:Oper} {σ:AS} {t:Nat} {k k':IntKind} {m n:Int} {x y:Operand} {ats:Array TypeId} (v:Int) (hv:(if n<m then n else m)=v) (ho:o.op= .call {callee:= .builtin .min,args:=#[x,y],argTypes:=ats}) (hd:o.dst=some t) (ht:t<C.N) (hx:σ.eval x=some (.d (.v (.int k m)))) (hy:σ.eval y=some (.d (.v (.int k' n)))):At P C o σ (σ.put t (.d (.v (.int k v)))):=
 Am hd ht fun a w bm gt fp hg=>by
  have h1:=(hg.eval hx).val
  have h2:=(hg.eval hy).val
  refine⟨_,?_,.d (.v _)⟩
  simp only[execOp,ho,resolve,invoke,builtin,Sem.run_bind,Sem.run_pure,Result.andThen_ok,List.map_toArray,List.map_cons,List.map_nil,h1,h2]
  subst hv
  simp[go_sem]
  omega
theorem yK (x:UInt8):IntKind.u8.wrap ((BitVec.ofInt IntKind.u8.bits (x.toNat:Int)&&&BitVec.ofInt IntKind.u8.bits 127).toNat:Int)=((x.toNat%128:Nat):Int):=by
 have h:∀x:Fin 256,IntKind.u8.wrap ((BitVec.ofInt IntKind.u8.bits (x.1:Int)&&&BitVec.ofInt IntKind.u8.bits 127).toNat:Int)=((x.1%128:Nat):Int):=by decide+kernel
 exact h ⟨x.toNat,x.toNat_lt⟩
theorem yL (x:UInt8):IntKind.u8.wrap ((BitVec.ofInt IntKind.u8.bits (x.toNat:Int)&&&BitVec.ofInt IntKind.u8.bits 128).toNat:Int)=((x.toNat/128*128:Nat):Int):=by
 have h:∀x:Fin 256,IntKind.u8.wrap ((BitVec.ofInt IntKind.u8.bits (x.1:Int)&&&BitVec.ofInt IntKind.u8.bits 128).toNat:Int)=((x.1/128*128:Nat):Int):=by decide+kernel
 exact h ⟨x.toNat,x.toNat_lt⟩
theorem BF (n:Nat) (hn:n≤4294967295):IntKind.u64.wrap ((n:Int)*2^(min (Int.toNat 7) IntKind.u64.bits))=((n*128:Nat):Int):=by
 have:(2:Int)^(min (Int.toNat 7) IntKind.u64.bits)=128:=by decide
 rw[this,IntWalk.u64_in _ (by omega)];omega
theorem or7 (n m:Nat) (hn:n≤4294967295) (hm:m<128):IntKind.u64.wrap ((BitVec.ofInt IntKind.u64.bits ((n*128:Nat):Int)|||BitVec.ofInt IntKind.u64.bits (m:Int)).toNat:Int)=((n*128+m:Nat):Int):=by
 rw[BitVec.toNat_or,BitVec.ofInt_natCast,BitVec.ofInt_natCast,BitVec.toNat_ofNat,BitVec.toNat_ofNat]
 have hb64:2^IntKind.u64.bits=18446744073709551616:=by decide
 rw[hb64,Nat.mod_eq_of_lt (by omega),Nat.mod_eq_of_lt (by omega)]
 have:n*128|||m=n*128+m:=by
  have h:=Nat.shiftLeft_add_eq_or_of_lt (i:=7) (b:=m) (by omega) n
  rw[Nat.shiftLeft_eq] at h
  exact h.symm
 rw[this,IntWalk.u64_in _ (by omega)]
def Mf (ns:List Nat):Option (List Nat)→Option (List Nat)
 |some l=>some (ns++l)
 |none=>none
theorem bX (ns:List Nat) (n:Nat) (o:Option (List Nat)):Mf ns (match o with|some l=>some (n::l)|none=>none)=Mf (ns++[n]) o:=by
 cases o with
 |none=>rfl
 |some l=>show some (ns++n::l)=some (ns++[n]++l);simp
theorem pG {α:Type} {l:List α} {i:Nat} {x:α} (h:l[i]?=some x):l.drop i=x::l.drop (i+1):=by
 obtain⟨h1,h2⟩:=List.getElem?_eq_some_iff.1 h
 rw[List.drop_eq_getElem_cons h1,h2]
theorem bY {c:List UInt8} {i:Nat} {x:UInt8} {b:Bool} {n:Nat} (hx:c[i]?=some x):Bi b n (c.drop i)=if b=false∧x=128 then none else if n*128+x.toNat%128>4294967295 then none else if x.toNat<128 then(match Bi false 0 (c.drop (i+1)) with
 |some l=>some ((n*128+x.toNat%128)::l)
 |none=>none) else Bi true (n*128+x.toNat%128) (c.drop (i+1)):=by
 rw[pG hx,Bi]<;>rfl
def U8 (c:List UInt8):AV:= .tup [sx (odT c),iv (odC c)]
theorem Kb {c:List UInt8} (h:Bi false 0 c=none∨Bi false 0 c=some []):U8 c= .tup [sx [],iv 6]:=by
 have:Qt c=none:=by unfold Qt;rcases h with h|h<;>rw[h]
 unfold U8 odT odC
 rw[this];rfl
theorem jY {c:List UInt8} {n:Nat} {r:List Nat} (h:Bi false 0 c=some (n::r)):U8 c= .tup [sx (Ca (D8 (n::r))),iv 0]:=by
 have:Qt c=some (D8 (n::r)):=by unfold Qt;rw[h]
 unfold U8 odT odC
 rw[this];rfl
structure DSt where
 i:Nat
 ns:List Nat
 b:Bool
 n:Nat
theorem uC {p:Prop} (h:p:=by first|rfl|(simp only[AV.gives,AV.ren,AV.give,D.un,D.uns,Ag,Ai,List.nil_append,List.append_nil,List.cons_append,eJ,X7,eK,Dk,eL,eM,eO];first|done|rfl)):p:=h
theorem Le (c:List UInt8) (hc:c.length≤900000):Ab Tryz.prog 218 [.d (Ac false c)] (fun r=>r=U8 c):=by
 refine acQ 87 Tryz.func218 rfl rfl fun _ _ _=> ?_
 (all_goals(conv=>whnf))
 refine NLoop.goA [.s 4 1 216] (fun p:DSt=>p.i≤c.length∧p.ns.length≤p.i∧p.n≤4294967295∧(p.b=false→p.n=0)∧Bi false 0 c=Mf p.ns (Bi p.b p.n (c.drop p.i))) (fun p=>c.length-p.i) (fun p=>⟨[(4,Dk 4 1 216 jX p.ns),(5,bv p.b),(6,uv p.n),(15,.d (Ac false c)),(16,iv c.length),(17,iv p.i)],[],[(4,(p.ns.length,1,216))]⟩) ⟨0,[],false,0⟩ ⟨by simp,by simp,by simp,by simp,(by show Bi false 0 c=Mf [] (Bi false 0 c);cases Bi false 0 c<;>rfl)⟩ leQ ?_
 rintro⟨i,ns,b,n⟩ ⟨hi,hnl,hn,hb0,he⟩
 simp only at hi hnl hn hb0 he
 by_cases hik:i<c.length
 ·obtain⟨x,hx⟩:∃x,c[i]?=some x:=⟨_,List.getElem?_eq_getElem hik⟩
  have hxl:=x.toNat_lt
  rw[bY hx] at he
  have hb1:(!b&&((x.toNat:Int)==128))=decide (b=false∧x=128):=by
   have:((x.toNat:Int)==128)=decide (x=128):=by
    rw[Bool.eq_iff_iff,beq_iff_eq,decide_eq_true_eq,←UInt8.toNat_inj]
    show _↔x.toNat=128
    omega
   rw[this];cases b<;>simp
  by_cases c1:b=false∧x=128
  ·rw[if_pos c1] at he
   rw[Kb (.inl he)]
   obtain⟨rfl,rfl⟩:=c1
   have g:(((128:UInt8).toNat:Int)==128)=true:=by decide
   (repeat'((conv=>whnf);first|refine NBr.yes ?_|refine NIdx.bytes hx ?_|(refine NBr.mk (fun hc=> ?_) (fun hc=> ?_)<;>(have hcP:=hc;(try simp only[decide_eq_true_eq,decide_eq_false_iff_not] at hcP)<;>first|(exfalso;omega)|skip))));(all_goals(conv=>whnf))
   all_goals exact NEnd.eq leQ
  ·rw[if_neg c1] at he
   have e1:=yK x
   have e2:=yL x
   have e3:=BF n hn
   have e4:=or7 n (x.toNat%128) hn (by omega)
   by_cases c2:n*128+x.toNat%128>4294967295
   ·rw[if_pos c2] at he
    rw[Kb (.inl he)]
    have g2:decide (((n*128+x.toNat%128:Nat):Int)>4294967295)=true:=decide_eq_true (by omega)
    cases b
    ·have g:((x.toNat:Int)==128)=false:=by
      rw[Bool.not_false,Bool.true_and] at hb1
      rw[hb1,decide_eq_false c1]
     (repeat'((conv=>whnf);first|refine NBr.yes ?_|refine NBr.pos asP ?_|refine NBr.neg asP ?_|refine NIdx.bytes hx ?_|refine NInt.as (((n*128:Nat):Int)) (e3) ?_|refine NInt.as (((x.toNat%128:Nat):Int)) (e1) ?_|refine NInt.as (((n*128+x.toNat%128:Nat):Int)) (e4) ?_|refine NInt.as (((x.toNat/128*128:Nat):Int)) (e2) ?_|(with_reducible refine NInt.u64 ?_)|refine NFact.go (by first|decide|omega|(simp only[List.length_cons,List.length_nil];omega)) ?_|(refine NBr.mk (fun hc=> ?_) (fun hc=> ?_)<;>(have hcP:=hc;(try simp only[decide_eq_true_eq,decide_eq_false_iff_not] at hcP)<;>first|(exfalso;omega)|skip))));(all_goals(conv=>whnf))
     all_goals exact NEnd.eq leQ
    ·(repeat'((conv=>whnf);first|refine NBr.no ?_|refine NBr.pos asP ?_|refine NIdx.bytes hx ?_|refine NInt.as (((n*128:Nat):Int)) (e3) ?_|refine NInt.as (((x.toNat%128:Nat):Int)) (e1) ?_|refine NInt.as (((n*128+x.toNat%128:Nat):Int)) (e4) ?_|refine NInt.as (((x.toNat/128*128:Nat):Int)) (e2) ?_|(with_reducible refine NInt.u64 ?_)|refine NFact.go (by first|decide|omega|(simp only[List.length_cons,List.length_nil];omega)) ?_|(refine NBr.mk (fun hc=> ?_) (fun hc=> ?_)<;>(have hcP:=hc;(try simp only[decide_eq_true_eq,decide_eq_false_iff_not] at hcP)<;>first|(exfalso;omega)|skip))));(all_goals(conv=>whnf))
     all_goals exact NEnd.eq leQ
   ·rw[if_neg c2] at he
    have g2:decide (((n*128+x.toNat%128:Nat):Int)>4294967295)=false:=decide_eq_false (by omega)
    by_cases c3:x.toNat<128
    ·rw[if_pos c3,bX] at he
     have g3:(((x.toNat/128*128:Nat):Int) !=0)=false:=by rw[bne_eq_false_iff_eq];omega
     cases b
     ·have g:((x.toNat:Int)==128)=false:=by
       rw[Bool.not_false,Bool.true_and] at hb1
       rw[hb1,decide_eq_false c1]
      (repeat'((conv=>whnf);first|refine NBr.yes ?_|refine NBr.neg asP ?_|refine NIdx.bytes hx ?_|refine NInt.as (((n*128:Nat):Int)) (e3) ?_|refine NInt.as (((x.toNat%128:Nat):Int)) (e1) ?_|refine NInt.as (((n*128+x.toNat%128:Nat):Int)) (e4) ?_|refine NInt.as (((x.toNat/128*128:Nat):Int)) (e2) ?_|refine NApp.one jX (n*128+x.toNat%128) ?_|(with_reducible refine NInt.i64 ?_)|(with_reducible refine NInt.u64 ?_)|refine NFact.go (by first|decide|omega|(simp only[List.length_cons,List.length_nil];omega)) ?_|(refine NBr.mk (fun hc=> ?_) (fun hc=> ?_)<;>(have hcP:=hc;(try simp only[decide_eq_true_eq,decide_eq_false_iff_not,bne_iff_ne,bne_eq_false_iff_eq,ne_eq,Bool.not_eq_true',Bool.not_eq_false'] at hcP)<;>first|(exfalso;omega)|skip))));(all_goals(conv=>whnf))
      refine⟨⟨i+1,ns++[n*128+x.toNat%128],(((x.toNat/128*128:Nat):Int) !=0),0⟩,⟨by show i+1≤_;omega,by simp;omega,by simp,fun _=>rfl,?_⟩,by show c.length-(i+1)<c.length-i;omega,?_⟩
      ·show Bi false 0 c=Mf _ (Bi (((x.toNat/128*128:Nat):Int) !=0) 0 (c.drop (i+1)))
       rw[g3];exact he
      ·exact leQ
     ·(repeat'((conv=>whnf);first|refine NBr.no ?_|refine NBr.neg asP ?_|refine NIdx.bytes hx ?_|refine NInt.as (((n*128:Nat):Int)) (e3) ?_|refine NInt.as (((x.toNat%128:Nat):Int)) (e1) ?_|refine NInt.as (((n*128+x.toNat%128:Nat):Int)) (e4) ?_|refine NInt.as (((x.toNat/128*128:Nat):Int)) (e2) ?_|refine NApp.one jX (n*128+x.toNat%128) ?_|(with_reducible refine NInt.i64 ?_)|(with_reducible refine NInt.u64 ?_)|refine NFact.go (by first|decide|omega|(simp only[List.length_cons,List.length_nil];omega)) ?_|(refine NBr.mk (fun hc=> ?_) (fun hc=> ?_)<;>(have hcP:=hc;(try simp only[decide_eq_true_eq,decide_eq_false_iff_not,bne_iff_ne,bne_eq_false_iff_eq,ne_eq,Bool.not_eq_true',Bool.not_eq_false'] at hcP)<;>first|(exfalso;omega)|skip))));(all_goals(conv=>whnf))
      refine⟨⟨i+1,ns++[n*128+x.toNat%128],(((x.toNat/128*128:Nat):Int) !=0),0⟩,⟨by show i+1≤_;omega,by simp;omega,by simp,fun _=>rfl,?_⟩,by show c.length-(i+1)<c.length-i;omega,?_⟩
      ·show Bi false 0 c=Mf _ (Bi (((x.toNat/128*128:Nat):Int) !=0) 0 (c.drop (i+1)))
       rw[g3];exact he
      ·exact leQ
    ·rw[if_neg c3] at he
     have g3:(((x.toNat/128*128:Nat):Int) !=0)=true:=by rw[bne_iff_ne];omega
     cases b
     ·have g:((x.toNat:Int)==128)=false:=by
       rw[Bool.not_false,Bool.true_and] at hb1
       rw[hb1,decide_eq_false c1]
      (repeat'((conv=>whnf);first|refine NBr.yes ?_|refine NBr.neg asP ?_|refine NIdx.bytes hx ?_|refine NInt.as (((n*128:Nat):Int)) (e3) ?_|refine NInt.as (((x.toNat%128:Nat):Int)) (e1) ?_|refine NInt.as (((n*128+x.toNat%128:Nat):Int)) (e4) ?_|refine NInt.as (((x.toNat/128*128:Nat):Int)) (e2) ?_|(with_reducible refine NInt.i64 ?_)|(with_reducible refine NInt.u64 ?_)|refine NFact.go (by first|decide|omega|(simp only[List.length_cons,List.length_nil];omega)) ?_|(refine NBr.mk (fun hc=> ?_) (fun hc=> ?_)<;>(have hcP:=hc;(try simp only[decide_eq_true_eq,decide_eq_false_iff_not,bne_iff_ne,bne_eq_false_iff_eq,ne_eq,Bool.not_eq_true',Bool.not_eq_false'] at hcP)<;>first|(exfalso;omega)|skip))));(all_goals(conv=>whnf))
      refine⟨⟨i+1,ns,(((x.toNat/128*128:Nat):Int) !=0),n*128+x.toNat%128⟩,⟨by show i+1≤_;omega,by show ns.length≤i+1;omega,by show n*128+x.toNat%128≤_;omega,fun h=> ?_,?_⟩,by show c.length-(i+1)<c.length-i;omega,?_⟩
      ·rw[show(((x.toNat/128*128:Nat):Int) !=0)=false from h] at g3;cases g3
      ·show Bi false 0 c=Mf _ (Bi (((x.toNat/128*128:Nat):Int) !=0) _ (c.drop (i+1)))
       rw[g3];exact he
      ·exact leQ
     ·(repeat'((conv=>whnf);first|refine NBr.no ?_|refine NBr.neg asP ?_|refine NIdx.bytes hx ?_|refine NInt.as (((n*128:Nat):Int)) (e3) ?_|refine NInt.as (((x.toNat%128:Nat):Int)) (e1) ?_|refine NInt.as (((n*128+x.toNat%128:Nat):Int)) (e4) ?_|refine NInt.as (((x.toNat/128*128:Nat):Int)) (e2) ?_|(with_reducible refine NInt.i64 ?_)|(with_reducible refine NInt.u64 ?_)|refine NFact.go (by first|decide|omega|(simp only[List.length_cons,List.length_nil];omega)) ?_|(refine NBr.mk (fun hc=> ?_) (fun hc=> ?_)<;>(have hcP:=hc;(try simp only[decide_eq_true_eq,decide_eq_false_iff_not,bne_iff_ne,bne_eq_false_iff_eq,ne_eq,Bool.not_eq_true',Bool.not_eq_false'] at hcP)<;>first|(exfalso;omega)|skip))));(all_goals(conv=>whnf))
      refine⟨⟨i+1,ns,(((x.toNat/128*128:Nat):Int) !=0),n*128+x.toNat%128⟩,⟨by show i+1≤_;omega,by show ns.length≤i+1;omega,by show n*128+x.toNat%128≤_;omega,fun h=> ?_,?_⟩,by show c.length-(i+1)<c.length-i;omega,?_⟩
      ·rw[show(((x.toNat/128*128:Nat):Int) !=0)=false from h] at g3;cases g3
      ·show Bi false 0 c=Mf _ (Bi (((x.toNat/128*128:Nat):Int) !=0) _ (c.drop (i+1)))
       rw[g3];exact he
      ·exact leQ
 ·obtain rfl:i=c.length:=by omega
  rw[List.drop_length] at he
  cases b
  ·rw[Bi,if_neg (by simp)] at he
   simp only[Mf,List.append_nil] at he
   cases ns with
   |nil=>
    rw[Kb (.inr he)]
    (repeat'((conv=>whnf);first|refine NBr.yes ?_|refine NBr.no ?_|(refine NBr.mk (fun hc=> ?_) (fun hc=> ?_)<;>(have hcP:=hc;(try simp only[decide_eq_true_eq,decide_eq_false_iff_not] at hcP)<;>first|(exfalso;omega)|skip))));(all_goals(conv=>whnf))
    all_goals exact NEnd.eq leQ
   |cons n0 r=>
    rw[jY he]
    obtain⟨-,k2⟩:=Iq c false 0 _ (by omega) (by simp) (fun _=>rfl) he
    obtain⟨k3,k4,k5⟩:=Mc (l:=n0::r) (by simp) k2
    have hn0:=k2 n0 (by simp)
    rw[List.length_cons] at hnl
    have hT:=Ya (D8 (n0::r)) k4 (by rw[D8];simp only[List.length_cons];omega)
    rw[if_pos k3] at hT
    have h0:(n0::r)[0]?=some n0:=rfl
    have hz:((((n0::r).length:Nat):Int)==0)=false:=by rw[List.length_cons,beq_eq_false_iff_ne];omega
    have hm:(if(2:Int)<((n0/40:Nat):Int) then(2:Int) else((n0/40:Nat):Int))=((min (n0/40) 2:Nat):Int):=by
     split<;>omega
    have w1:IntKind.u32.wrap ((min (n0/40) 2:Nat):Int)=((min (n0/40) 2:Nat):Int):=IntWalk.u32_in _ (by omega)
    generalize hq:min (n0/40) 2=q at hT hm w1
    have hq2:q≤2∧q*40≤n0:=by omega
    have hul:D8 (n0::r)=q::(n0-40*q)::r:=by rw[D8,hq]
    rw[hul] at hT⊢
    have hdr:((n0::r).drop 1).take ((n0::r).length-1)=r:=by simp
    have ar:∀m:Int,m=((n0-40*q:Nat):Int)→IntKind.u64.wrap m=((n0-40*q:Nat):Int):=fun m hm=>by rw[hm,IntWalk.u64_in _ (by omega)]
    (repeat'((conv=>whnf);first|refine NBr.no ?_|refine NIdx.tab (fun _=>rfl) h0 ?_|refine NSl.tab (fun _=>rfl) 1 (n0::r).length r hdr ?_|refine NStep.go (pF ((q:Nat):Int) hm rfl rfl (ltN rfl) rfl rfl) ?_|refine NInt.as (((n0-40*q:Nat):Int)) (ar _ (by omega)) ?_|(with_reducible refine NInt.u32 ?_)|(with_reducible refine NInt.u64 ?_)|(with_reducible refine NInt.quoL ?_)|refine NFact.go (by first|decide|omega|(simp only[List.length_cons,List.length_nil];omega)) ?_|(refine NBr.mk (fun hc=> ?_) (fun hc=> ?_)<;>(have hcP:=hc;(try simp only[decide_eq_true_eq,decide_eq_false_iff_not] at hcP)<;>first|(exfalso;omega)|skip))));(all_goals(conv=>whnf))
    refine NLoop.go (fun i:Nat=>i≤r.length) (fun i=>r.length-i) (fun i=>⟨[(10,Dk 65 1 202 bV (q::(n0-40*q)::r.take i)),(67,.d (yJ true r)),(68,iv r.length),(69,iv i)],[],[(65,((q::(n0-40*q)::r.take i).length,1,202))]⟩) 0 (by simp) leQ ?_
    intro i hi
    by_cases hik:i<r.length
    ·obtain⟨m,hm⟩:∃n,r[i]?=some n:=⟨_,List.getElem?_eq_getElem hik⟩
     have hmb:=k2 m (by simp[List.mem_of_getElem? hm])
     (repeat'((conv=>whnf);first|refine NIdx.tab (fun _=>rfl) hm ?_|refine NApp.one bV m ?_|(with_reducible refine NInt.i64 ?_)|(with_reducible refine NInt.u32 ?_)|(refine NBr.mk (fun hc=> ?_) (fun hc=> ?_)<;>(have hcP:=hc;(try simp only[decide_eq_true_eq,decide_eq_false_iff_not] at hcP)<;>first|(exfalso;omega)|skip))));(all_goals(conv=>whnf))
     refine⟨i+1,by omega,by omega,?_⟩
     rw[Ka hm]
     exact leQ
    ·obtain rfl:i=r.length:=by omega
     rw[List.take_length]
     (repeat'((conv=>whnf);first|refine NBr.no ?_|refine NCall.eq hT uC ?_|(refine NBr.mk (fun hc=> ?_) (fun hc=> ?_)<;>(have hcP:=hc;(try simp only[decide_eq_true_eq,decide_eq_false_iff_not] at hcP)<;>first|(exfalso;omega)|skip))));(all_goals(conv=>whnf))
     all_goals exact NEnd.eq leQ
  ·rw[Bi,if_pos rfl] at he
   rw[Kb (.inl he)]
   (repeat'((conv=>whnf);first|refine NBr.yes ?_|(refine NBr.mk (fun hc=> ?_) (fun hc=> ?_)<;>(have hcP:=hc;(try simp only[decide_eq_true_eq,decide_eq_false_iff_not] at hcP)<;>first|(exfalso;omega)|skip))));(all_goals(conv=>whnf))
   all_goals exact NEnd.eq leQ
theorem Mg (l:Bool):∀(k n:Nat),n<128^(k+1)→(By l n).length≤k+1:=by
 intro k
 induction k generalizing l with
 |zero=>intro n h;rw[Cn l (by simpa using h)];simp
 |succ k ih=>
  intro n h
  by_cases h2:n<128
  ·rw[Cn l h2];simp
  ·have:=ih false (n/128) (by rw[Nat.pow_succ] at h;omega)
   rw[Ey l h2,List.length_append,List.length_singleton];omega
theorem eQ (n:Nat) (hn:n≤4294967295):IntKind.u32.wrap ((BitVec.ofInt IntKind.u32.bits (n:Int)&&&BitVec.ofInt IntKind.u32.bits 127).toNat:Int)=((n%128:Nat):Int):=by
 rw[show(127:Int)=((127:Nat):Int) from rfl,BitVec.ofInt_natCast,BitVec.ofInt_natCast,BitVec.toNat_and,BitVec.toNat_ofNat,BitVec.toNat_ofNat]
 have hb:2^IntKind.u32.bits=4294967296:=by decide
 rw[hb,Nat.mod_eq_of_lt (by omega),Nat.mod_eq_of_lt (by omega)]
 have:=Nat.and_two_pow_sub_one_eq_mod n 7
 rw[show 2^7-1=127 from rfl] at this
 rw[this,IntWalk.u32_in _ (by omega)]
theorem yM (m:Nat) (hm:m<128):IntKind.u32.wrap ((BitVec.ofInt IntKind.u32.bits (m:Int)|||BitVec.ofInt IntKind.u32.bits 128).toNat:Int)=((m+128:Nat):Int):=by
 have h:∀x:Fin 128,IntKind.u32.wrap ((BitVec.ofInt IntKind.u32.bits (x.1:Int)|||BitVec.ofInt IntKind.u32.bits 128).toNat:Int)=((x.1+128:Nat):Int):=by decide+kernel
 exact h ⟨m,hm⟩
theorem wE (n:Nat):(n:Int).fdiv (2^(min (Int.toNat 7) IntKind.u32.bits))=((n/128:Nat):Int):=tS (k:=7) n rfl
def hiB (q:Nat):List UInt8:=if q=0 then [] else By false q
theorem eR (l:Bool) (n:Nat):By l n=hiB (n/128)++[UInt8.ofNat (n%128+if l then 0 else 128)]:=by
 unfold hiB
 by_cases h:n<128
 ·rw[Cn l h,if_pos (show n/128=0 by omega)];rfl
 ·rw[Ey l h,if_neg (show¬n/128=0 by omega)]
theorem eT (n:Nat) (hn:n≤4294967295) {c:Code} (hc:Tryz.f163.body=some c) (vs:List Value) (hv:X4 [wv n,.ptr 6 0] vs) (W:World) (fp0 z0:Nat→Nat→Prop):
 eH Tryz.prog ⟨W,fp0,26,fun _=>none,z0⟩ tab (Qu 3 c) (fun tm bx tk=>yI vs [1] 3 (By true n).length 1 5 (Af (By true n)) ⟨tm,bx,tk⟩) (Qx 0 vs) [] []:=by
 have hc':=Option.some.inj hc
 match vs,hv with
 |[v0,v1],hv=>
  obtain⟨rfl,-⟩:=hv
  subst hc'
  have hL:=Mg true 4 n (by omega)
  have e1:=eQ n hn
  have e2:=wE n
  (repeat'((conv=>whnf);first|refine NInt.as (((n%128:Nat):Int)) (e1) ?_|refine NInt.as (((n/128:Nat):Int)) (e2) ?_|(with_reducible refine NInt.oct ?_)|refine NFact.go (by first|decide|omega|(simp only[List.length_cons,List.length_nil];omega)) ?_));(all_goals(conv=>whnf))
  refine NLoop.go (fun p:Nat×List UInt8=>p.1≤4294967295∧0<p.2.length∧hiB p.1++p.2.reverse=By true n) (fun p=>p.1) (fun p=>⟨[(0,wv p.1),(1,.d (.v v1)),(3,B7 7 5 p.2)],[],[(7,(p.2.length,1,5))]⟩) (n/128,[UInt8.ofNat (n%128)]) ⟨by show n/128≤_;omega,by simp,(by rw[eR];rfl)⟩ leQ ?_
  rintro⟨q,acc⟩ ⟨hq,ha,he⟩
  simp only[] at hq ha he
  have hal:acc.length≤5:=by
   have:=congrArg List.length he
   simp only[List.length_append,List.length_reverse] at this
   omega
  by_cases h0:q=0
  ·subst h0
   rw[hiB,if_pos rfl,List.nil_append] at he
   (repeat'((conv=>whnf);refine NBr.no ?_));(all_goals(conv=>whnf))
   refine NStep.go (Xr (l:=acc) (tm':=[(1,.d (.v v1)),(3,B7 7 5 acc.reverse)]) Tryz.laysRev (Jd Tryz.func164 (by kernel_rfl) rfl) rfl rfl (ltN rfl) rfl rfl ha (by omega) (.v rfl (.own rfl .nil)) rfl) ?_
   (all_goals(conv=>whnf))
   rw[he]
   exact⟨7,rfl,rfl,⟨v1,rfl,rfl⟩,trivial⟩
  ·have hq2:hiB q=hiB (q/128)++[UInt8.ofNat (q%128+128)]:=by
    conv=>lhs;rw[hiB,if_neg h0,eR]
    rfl
   have e3:=eQ q hq
   have e4:=yM (q%128) (by omega)
   have e5:=wE q
   rw[hq2] at he
   (repeat'((conv=>whnf);first|refine NInt.as (((q%128:Nat):Int)) (e3) ?_|refine NInt.as (((q%128+128:Nat):Int)) (e4) ?_|refine NInt.as (((q/128:Nat):Int)) (e5) ?_|(with_reducible refine NInt.oct ?_)|refine NApp.byte (_) ?_|refine NFact.go (by first|decide|omega|(simp only[List.length_cons,List.length_nil];omega)) ?_|(refine NBr.dec (fun hc hcP=> ?_) (fun hc hcP=> ?_)<;>try(exfalso;omega))));(all_goals(conv=>whnf))
   refine⟨(q/128,acc++[UInt8.ofNat (q%128+128)]),⟨by show q/128≤_;omega,by simp,?_⟩,by show q/128<q;omega,?_⟩
   ·show hiB (q/128)++(acc++[UInt8.ofNat (q%128+128)]).reverse=_
    rw[←he];simp
   ·exact leQ
theorem jZ {s:List UInt8} {a:List Nat} (h:Dv s=some a):a.length≤s.length+1:=by
 unfold Dv at h
 split at h
 ·rename_i a' h1
  split at h
  ·cases h
   rw[J9 h1];exact Md s
  ·cases h
 ·cases h
theorem Oj:∀(l:List Nat),(∀n∈l,n≤4294967295)→(l.flatMap (By true)).length≤5*l.length
 |[],_=>by simp
 |n::r,h=>by
  have h1:=Mg true 4 n (by have:=h n (by simp);omega)
  have h2:=Oj r (fun m hm=>h m (by simp[hm]))
  rw[List.flatMap_cons,List.length_append,List.length_cons];omega
theorem Yb (s:List UInt8) (hs:s.length≤4000000) (h:Dv s=none):Ab Tryz.prog 124 [sx s] (fun r=>r= .tup [.d (Ac true []),iv 8]):=by
 have hA:=Jl s hs
 unfold X9 at hA
 rw[h] at hA
 refine acQ 40 Tryz.func124 rfl rfl fun _ _ _=> ?_
 (repeat'((conv=>whnf);first|refine NBr.yes ?_|refine NCall.eq hA rfl ?_));(all_goals(conv=>whnf))
 all_goals exact NEnd.eq leQ
theorem Yc (s:List UInt8) (hs:s.length≤4000000) {a:List Nat} (h:Dv s=some a):Ab Tryz.prog 124 [sx s] (fun r=>r= .tup [.d (Ac true (X1 a)),iv 0]):=by
 have hA:=Jl s hs
 unfold X9 at hA
 rw[h] at hA
 obtain⟨k1,k2,k3⟩:=Gq h
 obtain⟨x,y,r,rfl,x2,xy,y2⟩:=Ej k1
 have h0:(x::y::r)[0]?=some x:=rfl
 have h1:(x::y::r)[1]?=some y:=rfl
 have hxy:40*x+y≤4294967295:=by
  by_cases hx:x<2
  ·have:=xy hx;omega
  ·omega
 refine acQ 40 Tryz.func124 rfl rfl fun _ _ _=> ?_
 have e1:∀z:Int,z=((40*x+y:Nat):Int)→IntKind.u32.wrap z=((40*x+y:Nat):Int):=fun z hz=>by rw[hz,IntWalk.u32_in _ (by omega)]
 have hdr:((x::y::r).drop 2).take ((x::y::r).length-2)=r:=by simp
 have hL:=Mg true 4 (40*x+y) (by omega)
 have hal:=jZ h
 simp only[List.length_cons] at hal
 (repeat'((conv=>whnf);first|refine NBr.no ?_|refine NCall.eq hA rfl ?_|refine NIdx.tab (fun _=>rfl) h0 ?_|refine NIdx.tab (fun _=>rfl) h1 ?_|refine NInt.as (((40*x+y:Nat):Int)) (e1 _ (by omega)) ?_|(with_reducible refine NInt.u32 ?_)|refine NFact.go ⟨by decide+kernel,by kernel_rfl⟩ ?_));(all_goals(conv=>whnf))
 refine Qy 3 3 200 (By true (40*x+y)).length 1 5 (Af (By true (40*x+y))) [1] 100 26 #[] Be mixed rfl rfl rfl rfl Tryz.func163 rfl (by kernel_rfl) rfl rfl rfl rfl rfl (fun vs hv W fp0 z0=>eT (40*x+y) hxy rfl vs hv W fp0 z0) (fun gh=> ?_)
 (repeat'((conv=>whnf);first|refine NSl.tab (fun _=>rfl) 2 (x::y::r).length r hdr ?_|(with_reducible refine NApp.bytes0 ?_)));(all_goals(conv=>whnf))
 refine NLoop.go (fun i:Nat=>i≤r.length) (fun i=>r.length-i) (fun i=>⟨[(6,.ptr 6 0),(7,.cl 163 [] [.ptr 6 0]),(29,.d (bW true r)),(30,iv r.length),(31,iv i)],[(6,[B7 125 5 (By true (40*x+y)++(r.take i).flatMap (By true))])],[(125,((By true (40*x+y)++(r.take i).flatMap (By true)).length,1,5))]⟩) 0 (by simp) (by rw[List.take_zero,List.flatMap_nil,List.append_nil];exact leQ) ?_
 intro i hi
 by_cases hik:i<r.length
 ·obtain⟨m,hm⟩:∃n,r[i]?=some n:=⟨_,List.getElem?_eq_getElem hik⟩
  have hmb:=k2 m (by simp[List.mem_of_getElem? hm])
  have hLm:=Mg true 4 m (by omega)
  have hLf:=Oj (r.take i) (fun n hn=>k2 n (by simp[List.mem_of_mem_take hn]))
  rw[List.length_take] at hLf
  have hLa:(By true (40*x+y)++(r.take i).flatMap (By true)).length≤21000000:=by rw[List.length_append];omega
  have hsn:By true (40*x+y)++(r.take (i+1)).flatMap (By true)=By true (40*x+y)++(r.take i).flatMap (By true)++By true m:=by
   rw[Ka hm,List.flatMap_append,List.append_assoc];simp
  (repeat'((conv=>whnf);first|refine NIdx.tab (fun _=>rfl) hm ?_|(refine NBr.dec (fun hc hcP=> ?_) (fun hc hcP=> ?_)<;>try(exfalso;omega))));(all_goals(conv=>whnf))
  refine Qy 3 3 200 (By true m).length 1 5 (Af (By true m)) [1] 100 26 #[] Be mixed rfl rfl rfl rfl Tryz.func163 rfl (by kernel_rfl) rfl rfl rfl rfl rfl (fun vs hv W fp0 z0=>eT m hmb rfl vs hv W fp0 z0) (fun gh=> ?_)
  (repeat'((conv=>whnf);first|(with_reducible refine NInt.i64 ?_)|(with_reducible refine NApp.bytes ?_)));(all_goals(conv=>whnf))
  refine⟨i+1,by omega,by omega,?_⟩
  rw[hsn]
  exact leQ
 ·obtain rfl:i=r.length:=by omega
  rw[List.take_length]
  (repeat'((conv=>whnf);(refine NBr.dec (fun hc hcP=> ?_) (fun hc hcP=> ?_)<;>try(exfalso;omega))));(all_goals(conv=>whnf))
  all_goals exact NEnd.eq leQ
  all_goals rfl
theorem Q5 (s:List UInt8) (hs:s.length≤4000000):Ab Tryz.prog 124 [sx s] (fun r=>r= .tup [.d (Ac true (Bj s)),iv (jU s)]):=by
 unfold Bj jU
 cases h:Dv s with
 |some a=>exact Yc s hs h
 |none=>exact Yb s hs h
theorem O9 {n:Nat} (h:¬n<10):(Lib.decDigits n).length=(Lib.decDigits (n/10)).length+1:=by
 rw[Lib.decDigits,dif_neg h];simp
theorem U9 (n:Nat):1≤(Lib.decDigits n).length:=by
 rw[Lib.decDigits];split<;>simp
theorem Mh:∀(n m:Nat),m≤n→(Lib.decDigits m).length≤(Lib.decDigits n).length:=by
 intro n
 induction n using Nat.strongRecOn with
 |_ n ih=>
  intro m h
  by_cases h1:m<10
  ·rw[Lib.decDigits_one h1];exact U9 n
  ·have:=ih (n/10) (by omega) (m/10) (by omega)
   rw[O9 h1,O9 (n:=n) (by omega)];omega
theorem Q6:∀(n:Nat) (l:Bool),(By l n).length≤(Lib.decDigits n).length:=by
 intro n
 induction n using Nat.strongRecOn with
 |_ n ih=>
  intro l
  by_cases h:n<128
  ·rw[Cn l h];exact U9 n
  ·have h1:=ih (n/128) (by omega) false
   have h2:=Mh (n/10) (n/128) (by omega)
   rw[Ey l h,O9 (by omega),List.length_append,List.length_singleton];omega
theorem Yd:∀r:List Nat,r≠[]→(r.flatMap (By true)).length+(r.length-1)≤(Ca r).length
 |[],h=>absurd rfl h
 |[n],_=>by have:=Q6 n true;simpa[Ca] using this
 |n::m::r,_=>by
  have h1:=Q6 n true
  have h2:=Yd (m::r) (by simp)
  rw[List.flatMap_cons,Ca]
  simp only[List.length_append,List.length_cons] at h2⊢
  omega
theorem eU (s:List UInt8):(Bj s).length≤s.length:=by
 unfold Bj
 cases h:Dv s with
 |none=>simp
 |some a=>
  obtain⟨k1,k2,k3⟩:=Gq h
  obtain⟨x,y,r,rfl,x2,-⟩:=Ej k1
  rw[←k3]
  have hx:=U9 x
  have hb:(By true (40*x+y)).length≤(Lib.decDigits y).length+1:=by
   by_cases h1:40*x+y<128
   ·rw[Cn _ h1,List.length_singleton];omega
   ·have h2:=Q6 ((40*x+y)/128) false
    have h3:=Mh y ((40*x+y)/128) (by omega)
    rw[Ey _ h1,List.length_append,List.length_singleton];omega
  show(By true (40*x+y)++r.flatMap (By true)).length≤_
  rw[Ca,List.length_append,List.length_append,List.length_cons]
  cases r with
  |nil=>rw[Ca];simp only[List.flatMap_nil,List.length_nil];omega
  |cons z q=>
   have h4:=Yd (z::q) (by simp)
   rw[Ca,List.length_append,List.length_cons]
   omega
theorem Va (n:Nat):(Lib.decDigits n).length≤(Lib.decDigits (n/10)).length+1:=by
 by_cases h:n<10
 ·rw[Lib.decDigits_one h];simp
 ·rw[O9 h];omega
theorem Q7:∀(n:Nat) (l:Bool),(Lib.decDigits n).length≤3*(By l n).length:=by
 intro n
 induction n using Nat.strongRecOn with
 |_ n ih=>
  intro l
  have h3:=Va n
  have h4:=Va (n/10)
  have h5:=Va (n/10/10)
  by_cases h:n<128
  ·rw[Cn l h,List.length_singleton]
   have:(Lib.decDigits (n/10/10)).length=1:=by rw[Lib.decDigits_one (by omega)];simp
   omega
  ·have h1:=ih (n/128) (by omega) false
   have h2:=Mh (n/128) (n/10/10/10) (by omega)
   rw[Ey l h,List.length_append,List.length_singleton];omega
theorem Ye:∀r:List Nat,(Ca r).length≤4*(r.flatMap (By true)).length
 |[]=>by simp[Ca]
 |[n]=>by have:=Q7 n true;simp only[Ca,List.flatMap_cons,List.flatMap_nil,List.append_nil];omega
 |n::m::r=>by
  have h1:=Q7 n true
  have h2:=Ye (m::r)
  have h3:1≤(By true n).length:=by
   cases h:By true n with
   |nil=>exact absurd h (tZ _ _)
   |cons _ _=>simp
  rw[List.flatMap_cons,Ca]
  simp only[List.length_append,List.length_cons] at h2⊢
  omega
theorem Q8 {s:List UInt8} (h:Ft s=true):s.length≤4*(Bj s).length+4:=by
 unfold Ft at h
 unfold Bj
 cases ha:Dv s with
 |none=>rw[ha] at h;cases h
 |some a=>
  obtain⟨k1,k2,k3⟩:=Gq ha
  obtain⟨x,y,r,rfl,x2,-⟩:=Ej k1
  rw[←k3]
  have hx:(Lib.decDigits x).length=1:=by rw[Lib.decDigits_one (by omega)];simp
  have hy:=Mh (40*x+y) y (by omega)
  have hb:=Q7 (40*x+y) true
  have hr:=Ye r
  show _≤4*(By true (40*x+y)++r.flatMap (By true)).length+4
  rw[Ca,List.length_append,List.length_append,List.length_cons]
  cases r with
  |nil=>rw[Ca];simp only[List.flatMap_nil,List.length_nil];omega
  |cons z q=>
   rw[Ca,List.length_append,List.length_cons]
   omega
theorem Tk (l:Bool):∀(k n:Nat),n<128^(k+1)→(By l n).length≤k+1:=by
 intro k
 induction k generalizing l with
 |zero=>intro n h;rw[Cn l (by simpa using h)];simp
 |succ k ih=>
  intro n h
  by_cases h2:n<128
  ·rw[Cn l h2];simp
  ·have:=ih false (n/128) (by rw[Nat.pow_succ] at h;omega)
   rw[Ey l h2,List.length_append,List.length_singleton];omega
theorem Mi:∀(l:List Nat),(∀n∈l,n≤4294967295)→(l.flatMap (By true)).length≤5*l.length
 |[],_=>by simp
 |n::r,h=>by
  have h1:=Tk true 4 n (by have:=h n (by simp);omega)
  have h2:=Mi r (fun m hm=>h m (by simp[hm]))
  rw[List.flatMap_cons,List.length_append,List.length_cons];omega
theorem bZ {s:List UInt8} {a:List Nat} (h:Dv s=some a):a.length≤s.length+1:=by
 unfold Dv at h
 split at h
 ·rename_i a' h1
  split at h
  ·cases h
   rw[J9 h1];exact Md s
  ·cases h
 ·cases h
theorem Dm (f:Bool) (g:Bool) (a b:List UInt8) (_:a.length≤1000000000) (_:b.length≤1000000000):Ab Tryz.prog 21 [.d (Ac f a),.d (Ac g b)] (fun r=>r=bv (a==b)):=by
 refine acQ 10 Tryz.func21 rfl rfl fun _ _ _=> ?_
 (repeat'((conv=>whnf);(with_reducible refine NStr.go ?_)));(all_goals(conv=>whnf))
 all_goals exact NEnd.eq leQ
inductive S where
 |mk (at' stop c n:Nat) (k:Bool) (b:List UInt8) (ks:List S)
def S.stop:S→Nat
 | .mk _ stop _ _ _ _ _=>stop
mutual
def eV (t:Bool):S→List D
 | .mk _ _ c n k b ks=>[.v (.int .i64 c),.v (.int .i64 n),.v (.bool k),Ac t b,.sl t ks.length 5 (Hh t ks)]
def Hh (t:Bool):List S→List D
 |[]=>[]
 |s::r=>eV t s++Hh t r
end
mutual
def eW (t:Bool):S→List D
 | .mk a e c n k b ks=>[.v (.int .i64 a),.v (.int .i64 e),.v (.int .i64 c),.v (.int .i64 n),.v (.bool k),Ac t b,.sl t ks.length 5 (Hh t ks),.sl t ks.length 8 (Jm t ks)]
def Jm (t:Bool):List S→List D
 |[]=>[]
 |s::r=>eW t s++Jm t r
end
theorem kA (t:Bool) (l:List S):Hh t l=l.flatMap (eV t):=by
 induction l with
 |nil=>rw[Hh];rfl
 |cons s r ih=>rw[Hh,ih,List.flatMap_cons]
theorem kB (t:Bool) (l:List S):Jm t l=l.flatMap (eW t):=by
 induction l with
 |nil=>rw[Jm];rfl
 |cons s r ih=>rw[Jm,ih,List.flatMap_cons]
structure SR where
 l:List S
 code:Nat
 off:Nat
def SR.bad (code off:Nat):SR:=⟨[],code,off⟩
def Q9 (x:S) (r:SR):SR:=if r.code=0 then⟨x::r.l,0,0⟩ else⟨[],r.code,r.off⟩
theorem Mj {x:S} {r:SR} (h:r.code=0):Q9 x r=⟨x::r.l,0,0⟩:=if_pos h
theorem Kc {x:S} {r:SR} (h:r.code≠0):Q9 x r=⟨[],r.code,r.off⟩:=if_neg h
def E6 (rd:Nat→SR) (en:Nat):Nat→Nat→SR
 |0,_=>⟨[],0,0⟩
 |f+1,at'=>if at'<en then
   match rd at' with
   |⟨s::_,0,_⟩=>Q9 s (E6 rd en f s.stop)
   |r=>⟨[],r.code,r.off⟩
  else⟨[],0,0⟩
theorem H1 {rd:Nat→SR} {en f at':Nat} {s:S} (h:at'<en) (h1:rd at'=⟨[s],0,0⟩):E6 rd en (f+1) at'=Q9 s (E6 rd en f s.stop):=by
 rw[E6,if_pos h,h1];rfl
theorem Jn {rd:Nat→SR} {en f at':Nat} (h:at'<en) (h1:(rd at').code≠0):E6 rd en (f+1) at'=⟨[],(rd at').code,(rd at').off⟩:=by
 rw[E6,if_pos h]
 generalize rd at'=r at*
 obtain⟨l,c,o⟩:=r
 cases c with
 |zero=>exact absurd rfl h1
 |succ c=>cases l<;>rfl
theorem Fi {rd:Nat→SR} {en f at':Nat} (h:¬at'<en):E6 rd en f at'=⟨[],0,0⟩:=by
 cases f with
 |zero=>rfl
 |succ f=>rw[E6,if_neg h]
def H2 (b:List UInt8) (kids:Nat→Nat→SR) (at' en:Nat) (h:Hd):SR:=
 if h.code≠0 then .bad h.code (at'+h.off)
 else if en-at'<h.size+h.len then .bad 1 en
 else if h.k=false then⟨[.mk at' (at'+h.size+h.len) h.c h.n false ((b.drop (at'+h.size)).take h.len) []],0,0⟩
 else if(kids (at'+h.size) (at'+h.size+h.len)).code≠0 then .bad (kids (at'+h.size) (at'+h.size+h.len)).code (kids (at'+h.size) (at'+h.size+h.len)).off
 else⟨[.mk at' (at'+h.size+h.len) h.c h.n true [] (kids (at'+h.size) (at'+h.size+h.len)).l],0,0⟩
def Ci (rd:Nat→Nat→SR) (at' en:Nat):SR:=E6 (fun p=>rd p en) en (en-at') at'
def Az (b:List UInt8):Nat→Nat→Nat→SR
 |0,at',_=> .bad 5 at'
 |d+1,at',en=>H2 b (Ci (Az b d)) at' en (rhS ((b.drop at').take (en-at')))
def Rds (rd:Nat→SR) (en:Nat):Prop:=∀p,p≤en→((rd p).code=0→∃s:S,rd p=⟨[s],0,0⟩∧p+2≤s.stop∧s.stop≤en)∧((rd p).code≠0→(rd p).off≤en∧(rd p).l=[])
theorem cA {rd:Nat→SR} {en:Nat} (hr:Rds rd en):∀(f g at':Nat),en-at'≤f→f≤g→E6 rd en g at'=E6 rd en f at':=by
 intro f
 induction f with
 |zero=>
  intro g at' h1 h2
  rw[Fi (by omega),Fi (by omega)]
 |succ f ih=>
  intro g at' h1 h2
  obtain⟨g,rfl⟩:∃j,g=j+1:=⟨g-1,by omega⟩
  by_cases h3:at'<en
  ·by_cases h4:(rd at').code≠0
   ·rw[Jn h3 h4,Jn h3 h4]
   ·obtain⟨s,e1,e2,e3⟩:=(hr at' (by omega)).1 (Decidable.not_not.1 h4)
    rw[H1 h3 e1,H1 h3 e1,ih g _ (by omega) (by omega)]
  ·rw[Fi h3,Fi h3]
theorem kC {rd:Nat→Nat→SR} {at' en:Nat} (h:¬at'<en):Ci rd at' en=⟨[],0,0⟩:=Fi h
theorem kD {rd:Nat→Nat→SR} {at' en:Nat} (h:at'<en) (h1:(rd at' en).code≠0):Ci rd at' en=⟨[],(rd at' en).code,(rd at' en).off⟩:=by
 obtain⟨f,hf⟩:∃f,en-at'=f+1:=⟨en-at'-1,by omega⟩
 rw[Ci,hf]
 exact Jn (rd:=fun p=>rd p en) h h1
theorem cB {rd:Nat→Nat→SR} {at' en:Nat} {s:S} (hr:Rds (fun p=>rd p en) en) (h:at'<en) (h1:rd at' en=⟨[s],0,0⟩) (h2:at'<s.stop):Ci rd at' en=Q9 s (Ci rd s.stop en):=by
 obtain⟨f,hf⟩:∃f,en-at'=f+1:=⟨en-at'-1,by omega⟩
 have e:E6 (fun p=>rd p en) en f s.stop=Ci rd s.stop en:=cA hr _ _ _ (Nat.le_refl _) (by omega)
 rw[Ci,hf,H1 (rd:=fun p=>rd p en) h h1,e]
theorem pH {rd:Nat→SR} {en:Nat} (hr:Rds rd en):∀(f at':Nat),((E6 rd en f at').code=0→E6 rd en f at'=⟨(E6 rd en f at').l,0,0⟩)∧(E6 rd en f at').off≤en:=by
 intro f
 induction f with
 |zero=>intro at';exact⟨fun _=>rfl,Nat.zero_le _⟩
 |succ f ih=>
  intro at'
  by_cases h3:at'<en
  ·by_cases h4:(rd at').code≠0
   ·rw[Jn h3 h4]
    exact⟨fun h=>absurd h h4,((hr at' (by omega)).2 h4).1⟩
   ·obtain⟨s,e1,e2,e3⟩:=(hr at' (by omega)).1 (Decidable.not_not.1 h4)
    rw[H1 h3 e1]
    by_cases h5:(E6 rd en f s.stop).code=0
    ·rw[Mj h5]
     exact⟨fun _=>rfl,Nat.zero_le _⟩
    ·rw[Kc h5]
     exact⟨fun h=>absurd h h5,(ih s.stop).2⟩
  ·rw[Fi h3]
   exact⟨fun _=>rfl,Nat.zero_le _⟩
theorem Ek (b:List UInt8):∀(d en:Nat),en≤b.length→Rds (fun p=>Az b d p en) en:=by
 intro d
 induction d with
 |zero=>
  intro en hen p hp
  exact⟨fun h=>by simp[Az,SR.bad] at h,fun _=>⟨by simp[Az,SR.bad];exact hp,rfl⟩⟩
 |succ d ih=>
  intro en hen p hp
  have hB:=Dl ((b.drop p).take (en-p))
  have hlen:((b.drop p).take (en-p)).length=en-p:=by simp;omega
  rw[hlen] at hB
  show((Az b (d+1) p en).code=0→_)∧_
  simp only[Az]
  generalize rhS ((b.drop p).take (en-p))=h at hB⊢
  obtain⟨c1,c2,c3,c4,c5,c6,c7⟩:=hB
  unfold H2
  by_cases k1:h.code≠0
  ·rw[if_pos k1]
   exact⟨fun h'=>absurd h' k1,fun _=>⟨by simp only[SR.bad];omega,rfl⟩⟩
  rw[if_neg k1]
  by_cases k2:en-p<h.size+h.len
  ·rw[if_pos k2]
   exact⟨fun h'=>by simp[SR.bad] at h',fun _=>⟨by simp[SR.bad],rfl⟩⟩
  rw[if_neg k2]
  have c1':=c1 (Decidable.not_not.1 k1)
  by_cases k3:h.k=false
  ·rw[if_pos k3]
   exact⟨fun _=>⟨_,rfl,by simp only[S.stop];omega,by simp only[S.stop];omega⟩,fun h'=>by simp at h'⟩
  rw[if_neg k3]
  have hR:=ih (p+h.size+h.len) (by omega)
  have hK:=pH hR (p+h.size+h.len-(p+h.size)) (p+h.size)
  by_cases k4:(Ci (Az b d) (p+h.size) (p+h.size+h.len)).code≠0
  ·rw[if_pos k4]
   have h9:(Ci (Az b d) (p+h.size) (p+h.size+h.len)).off≤p+h.size+h.len:=hK.2
   exact⟨fun h'=>absurd h' k4,fun _=>⟨by simp only[SR.bad];omega,rfl⟩⟩
  ·rw[if_neg k4]
   exact⟨fun _=>⟨_,rfl,by simp only[S.stop];omega,by simp only[S.stop];omega⟩,fun h'=>by simp at h'⟩
def Yf:AV:= .agg [iv 0,iv 0,iv 0,iv 0,bv false,Ay,Ay,Ay]
def wF (x:S):AV:= .agg ((eW true x).map AV.d)
def trA (r:SR):AV:=match r with
 |⟨x::_,0,_⟩=> .tup [wF x,erA 0 0]
 |r=> .tup [Yf,erA r.code r.off]
theorem cC (x:S):trA ⟨[x],0,0⟩= .tup [wF x,erA 0 0]:=rfl
theorem Mk {r:SR} (h:r.code≠0):trA r= .tup [Yf,erA r.code r.off]:=by
 obtain⟨l,c,o⟩:=r
 cases c with
 |zero=>exact absurd rfl h
 |succ c=>cases l<;>rfl
theorem Lf (c o:Int):Ab Tryz.prog 256 [iv c,iv o] (fun r=>r= .tup [Yf,erA c o]):=by
 refine acQ 10 Tryz.func256 rfl rfl fun _ _ _=> ?_
 (all_goals(conv=>whnf))
 exact NEnd.eq leQ
abbrev wG:S→List D:=eV true
abbrev wH:S→List D:=eW true
theorem Ra {p:Prop} (h:p:=by first|rfl|(simp only[AV.gives,AV.ren,AV.give,D.un,D.uns,Ag,Ai,List.nil_append,List.append_nil,List.cons_append,Al,Dq,Ds];first|done|rfl)):p:=h
theorem kE (b:List UInt8) (hb:b.length≤1000000000) (d at' en cc nn ll sz off:Nat) (hd:d<1000) (h1:at'≤en) (h2:en≤b.length) (hsz:2≤sz) (h3:sz+ll≤en-at')
 (hR:Ab Tryz.prog 174 [.d (Ac false ((b.drop at').take (en-at')))] (fun r=>r= .tup [.agg [iv cc,iv nn,bv true,iv ll,iv sz],erA 0 off]))
 (ih:∀(p q:Nat),p≤q→q≤b.length→Ab Tryz.prog 236 [.d (Ac false b),iv p,iv q,iv d] (fun r=>r=trA (Az b d p q))):
 Ab Tryz.prog 236 [.d (Ac false b),iv at',iv en,iv (d+1:Nat)] (fun r=>r=trA (H2 b (Ci (Az b d)) at' en ⟨cc,nn,true,ll,sz,0,off⟩)):=by
 have hRd:=Ek b d (at'+sz+ll) (by omega)
 have hF:(Ci (Az b d) (at'+sz) (at'+sz+ll)).code≠0→H2 b (Ci (Az b d)) at' en ⟨cc,nn,true,ll,sz,0,off⟩= .bad (Ci (Az b d) (at'+sz) (at'+sz+ll)).code (Ci (Az b d) (at'+sz) (at'+sz+ll)).off:=fun h=>by
  unfold H2
  rw[if_neg (fun x=>x rfl),if_neg (show¬en-at'<sz+ll by omega),if_neg (fun x=>by cases x),if_pos h]
 have hO:(Ci (Az b d) (at'+sz) (at'+sz+ll)).code=0→H2 b (Ci (Az b d)) at' en ⟨cc,nn,true,ll,sz,0,off⟩=⟨[.mk at' (at'+sz+ll) cc nn true [] (Ci (Az b d) (at'+sz) (at'+sz+ll)).l],0,0⟩:=fun h=>by
  unfold H2
  rw[if_neg (fun x=>x rfl),if_neg (show¬en-at'<sz+ll by omega),if_neg (fun x=>by cases x),if_neg (fun x=>x h)]
 generalize hK:Ci (Az b d) (at'+sz) (at'+sz+ll)=K0 at hF hO
 refine acQ 125 Tryz.func236 rfl rfl fun _ _ _=> ?_
 (repeat'((conv=>whnf);first|refine NBr.no ?_|refine NCall.eq hR Ra ?_|refine NSl.slice (at') (en) ?_|(with_reducible refine NInt.i64 ?_)|(refine NBr.dec (fun hc hcP=> ?_) (fun hc hcP=> ?_)<;>try(exfalso;omega))));(all_goals(conv=>whnf))
 refine NLoop.goA [.b 14 6 1000 5 108,.b 14 7 1001 8 243] (fun z:Nat×List S=>z.1≤at'+sz+ll∧z.2.length≤z.1∧(Ci (Az b d) z.1 (at'+sz+ll)).code=K0.code∧(K0.code≠0→(Ci (Az b d) z.1 (at'+sz+ll)).off=K0.off)∧(K0.code=0→K0.l=z.2++(Ci (Az b d) z.1 (at'+sz+ll)).l)) (fun z=>at'+sz+ll-z.1)
  (fun z=>⟨[(0,.d (Ac false b)),(3,iv (d+1:Nat)),(8,.ptr 8 0),(9,.ptr 9 0),(13,iv z.1),(14,.ptr 14 0)],[(8,[iv 0,iv 0,iv 0,iv 0,bv false,Ay,Ay,Ay]),(9,[iv 0,iv 0]),(14,[iv at',iv (at'+sz+ll:Nat),iv cc,iv nn,bv true,Ay,Dk 1000 5 108 wG z.2,Dk 1001 8 243 wH z.2])],[(1000,(z.2.length,5,108)),(1001,(z.2.length,8,243))]⟩) (at'+sz,[]) ⟨by simp only[];omega,by simp,by rw[hK],fun _=>by rw[hK],fun _=>by rw[hK];rfl⟩ leQ ?_
 ·rintro⟨p,acc⟩ ⟨hp,hacc,e1,e2,e3⟩
  simp only[] at hp hacc e1 e2 e3
  by_cases h5:p<at'+sz+ll
  ·have hrec:=ih p (at'+sz+ll) (by omega) (by omega)
   by_cases h6:(Az b d p (at'+sz+ll)).code≠0
   ·rw[kD h5 h6] at e1 e2
    have h7:K0.code≠0:=by rw[←e1];exact h6
    rw[Mk h6,show(Az b d p (at'+sz+ll)).code=K0.code from e1,show(Az b d p (at'+sz+ll)).off=K0.off from e2 h7] at hrec
    rw[hF h7,Mk (show(SR.bad K0.code K0.off).code≠0 from h7)]
    (repeat'((conv=>whnf);first|refine NCall.eq hrec Ra ?_|refine NInt.as (((d:Nat):Int)) ((by rw[IntWalk.i64_in _ (by omega)];omega)) ?_|refine NFact.go ⟨by decide+kernel,by kernel_rfl⟩ ?_|(refine NBr.dec (fun hc hcP=> ?_) (fun hc hcP=> ?_)<;>try(exfalso;omega))|(refine NBr.bne (fun hc hcP=> ?_) (fun hc hcP=> ?_)<;>try(exfalso;omega))));(all_goals(conv=>whnf))
    all_goals exact NEnd.eq leQ
   ·obtain⟨s,r1,r2,r3⟩:=(hRd p (by omega)).1 (Decidable.not_not.1 h6)
    obtain⟨a,q,c,n,k,b',ks⟩:=s
    have r1':Az b d p (at'+sz+ll)=⟨[S.mk a q c n k b' ks],0,0⟩:=r1
    have r2':p+2≤q:=r2
    have r3':q≤at'+sz+ll:=r3
    rw[r1',cC] at hrec
    have hrec':Ab Tryz.prog 236 [.d (Ac false b),iv p,iv (at'+sz+ll:Nat),iv d] (fun r=>r= .tup [.agg [iv a,iv q,iv c,iv n,bv k,.d (Ac true b'),.d (.sl true ks.length 5 (Hh true ks)),.d (.sl true ks.length 8 (Jm true ks))],erA 0 0]):=hrec
    have hst:=cB hRd h5 r1' (show p<q by omega)
    have hst':Ci (Az b d) p (at'+sz+ll)=Q9 (S.mk a q c n k b' ks) (Ci (Az b d) q (at'+sz+ll)):=hst
    have e1':(Ci (Az b d) q (at'+sz+ll)).code=K0.code:=by
     rw[←e1,hst']
     by_cases h9:(Ci (Az b d) q (at'+sz+ll)).code=0
     ·rw[Mj h9];exact h9
     ·rw[Kc h9]
    have e2':K0.code≠0→(Ci (Az b d) q (at'+sz+ll)).off=K0.off:=fun h=>by
     rw[←e2 h,hst',Kc (by rw[e1'];exact h)]
    have e3':K0.code=0→K0.l=(acc++[S.mk a q c n k b' ks])++(Ci (Az b d) q (at'+sz+ll)).l:=fun h=>by
     rw[e3 h,hst',Mj (by rw[e1'];exact h)];simp
    clear hst hst' r1 r2 r3 hrec e1 e2 e3
    (repeat'((conv=>whnf);first|refine NBr.no ?_|refine NCall.eq hrec' Ra ?_|refine NInt.as (((d:Nat):Int)) ((by rw[IntWalk.i64_in _ (by omega)];omega)) ?_|refine NApp.one wG (S.mk a q c n k b' ks) ?_|refine NApp.one wH (S.mk a q c n k b' ks) ?_|(refine NBr.dec (fun hc hcP=> ?_) (fun hc hcP=> ?_)<;>try(exfalso;omega))));(all_goals(conv=>whnf))
    refine⟨(q,acc++[S.mk a q c n k b' ks]),⟨by simp only[];omega,by simp only[List.length_append,List.length_cons,List.length_nil] at*;omega,e1',e2',e3'⟩,by simp only[];omega,?_⟩
    exact leQ
  ·rw[kC h5] at e1 e3
   have h7:K0.code=0:=e1.symm
   have h8:=e3 h7
   rw[hO h7,h8,List.append_nil]
   (repeat'((conv=>whnf);(refine NBr.dec (fun hc hcP=> ?_) (fun hc hcP=> ?_)<;>try(exfalso;omega))));(all_goals(conv=>whnf))
   all_goals(refine NEnd.eq ?_;(repeat'(first|exact trivial|exact B8 _|refine And.intro ?_ ?_|exact rfl));(all_goals(conv=>whnf)))
   all_goals first|exact(kA true acc).symm|exact(kB true acc).symm
theorem Ml {p:Prop} (h:p:=by first|rfl|(simp only[AV.gives,AV.ren,AV.give,D.un,D.uns,Ag,Ai,List.nil_append,List.append_nil,List.cons_append,Al,Dq,Ds];first|done|rfl)):p:=h
theorem pI (b:List UInt8) (hb:b.length≤1000000000):∀(d at' en:Nat),d≤1000→at'≤en→en≤b.length→Ab Tryz.prog 236 [.d (Ac false b),iv at',iv en,iv d] (fun r=>r=trA (Az b d at' en)):=by
 intro d
 induction d with
 |zero=>
  intro at' en hd h1 h2
  refine acQ 125 Tryz.func236 rfl rfl fun _ _ _=> ?_
  (repeat'((conv=>whnf);first|refine NBr.yes ?_|refine NCall.eq (Lf 5 at') rfl ?_));(all_goals(conv=>whnf))
  all_goals exact NEnd.eq leQ
 |succ d ih=>
  intro at' en hd h1 h2
  have hlen:((b.drop at').take (en-at')).length=en-at':=by simp;omega
  have hR:=L0 ((b.drop at').take (en-at')) (by omega)
  have hB:=Dl ((b.drop at').take (en-at'))
  have hRd:=Ek b d
  rw[hlen] at hB
  rw[Az]
  generalize hh:rhS ((b.drop at').take (en-at'))=h at hR hB⊢
  obtain⟨c1,c2,c3,c4,c5,c6,c7⟩:=hB
  by_cases k1:h.code=0
  ·have c1':=c1 k1
   by_cases k2:en-at'<h.size+h.len
   ·rw[H2,if_neg (by omega),if_pos k2]
    refine acQ 125 Tryz.func236 rfl rfl fun _ _ _=> ?_
    (repeat'((conv=>whnf);first|refine NBr.no ?_|refine NCall.eq hR Ml ?_|refine NSl.slice (at') (en) ?_|refine NCall.eq (Lf _ _) rfl ?_|(with_reducible refine NInt.i64 ?_)|(refine NBr.dec (fun hc hcP=> ?_) (fun hc hcP=> ?_)<;>try(exfalso;omega))|(refine NBr.bne (fun hc hcP=> ?_) (fun hc hcP=> ?_)<;>try(exfalso;omega))));(all_goals(conv=>whnf))
    all_goals exact NEnd.eq leQ
    all_goals rfl
   ·obtain⟨cc,nn,kk,ll,sz,cd,of⟩:=h
    have k2':¬en-at'<sz+ll:=k2
    have k1':¬cd≠0:=fun x=>x k1
    have k0:cd=0:=k1
    have c1a:2≤sz:=c1'.1
    have c1b:sz≤en-at':=c1'.2.1
    have c4a:ll≤2147483647:=c4
    have hq:at'+sz+ll-(at'+sz)=ll:=by omega
    have hR':Ab Tryz.prog 174 [.d (Ac false ((b.drop at').take (en-at')))] (fun r=>r= .tup [.agg [iv cc,iv nn,bv kk,iv ll,iv sz],erA cd of]):=hR
    cases kk with
    |false=>
     have hC:=Hx ((b.drop (at'+sz)).take (at'+sz+ll-(at'+sz))) (by rw[List.length_take];omega)
     have e:H2 b (Ci (Az b d)) at' en ⟨cc,nn,false,ll,sz,cd,of⟩=⟨[.mk at' (at'+sz+ll) cc nn false ((b.drop (at'+sz)).take (at'+sz+ll-(at'+sz))) []],0,0⟩:=by
      rw[hq];unfold H2
      rw[if_neg k1',if_neg k2',if_pos rfl]
     rw[e]
     refine acQ 125 Tryz.func236 rfl rfl fun _ _ _=> ?_
     (repeat'((conv=>whnf);first|refine NBr.yes ?_|refine NBr.no ?_|refine NCall.eq hR' Ml ?_|refine NSl.slice (at') (en) ?_|refine NSl.slice (at'+sz) (at'+sz+ll) ?_|refine NCall.eq hC Ml ?_|(with_reducible refine NInt.i64 ?_)|(refine NBr.dec (fun hc hcP=> ?_) (fun hc hcP=> ?_)<;>try(exfalso;omega))|(refine NBr.bne (fun hc hcP=> ?_) (fun hc hcP=> ?_)<;>try(exfalso;omega))));(all_goals(conv=>whnf))
     all_goals exact NEnd.eq leQ
     all_goals rfl
    |true=>
     subst k0
     exact kE b hb d at' en cc nn ll sz of (by omega) h1 h2 c1a (by omega) hR' (fun p q hp hq'=>ih p q (by omega) hp hq')
  ·have e:H2 b (Ci (Az b d)) at' en h= .bad h.code (at'+h.off):=by rw[H2,if_pos k1]
   rw[e,Mk k1]
   refine acQ 125 Tryz.func236 rfl rfl fun _ _ _=> ?_
   (repeat'((conv=>whnf);first|refine NBr.no ?_|refine NCall.eq hR Ml ?_|refine NSl.slice (at') (en) ?_|refine NCall.eq (Lf _ _) rfl ?_|(with_reducible refine NInt.i64 ?_)|(refine NBr.bne (fun hc hcP=> ?_) (fun hc hcP=> ?_)<;>try(exfalso;omega))));(all_goals(conv=>whnf))
   all_goals exact NEnd.eq leQ
   all_goals rfl
def Vb (n:Nat):SR→SR
 |⟨s::_,0,_⟩=>if s.stop<n then .bad 2 s.stop else⟨[s],0,0⟩
 |r=> .bad r.code r.off
def C4 (b:List UInt8):SR:=Vb b.length (Az b 16 0 b.length)
theorem Fu {n:Nat} {s:S} (h:s.stop<n):Vb n ⟨[s],0,0⟩= .bad 2 s.stop:=if_pos h
theorem H3 {n:Nat} {s:S} (h:¬s.stop<n):Vb n ⟨[s],0,0⟩=⟨[s],0,0⟩:=if_neg h
theorem Gr {n c o:Nat}:Vb n ⟨[],c,o⟩= .bad c o:=by cases c<;>rfl
theorem Jo {p:Prop} (h:p:=by first|rfl|(simp only[AV.gives,AV.ren,AV.give,D.un,D.uns,Ag,Ai,List.nil_append,List.append_nil,List.cons_append,Al,Dq,Ds];first|done|rfl)):p:=h
theorem kF (b:List UInt8) (hb:b.length≤1000000000):Ab Tryz.prog 205 [.d (Ac false b)] (fun r=>r=trA (C4 b)):=by
 have hR:=pI b hb 16 0 b.length (by omega) (by omega) (by omega)
 have hF:=Ek b 16 b.length (by omega) 0 (by omega)
 dsimp only at hF
 unfold C4
 generalize Az b 16 0 b.length=r at hR hF
 by_cases h:r.code=0
 ·obtain⟨s,rfl,h1,h2⟩:=hF.1 h
  obtain⟨a,q,c,n,k,b',ks⟩:=s
  simp only[S.stop] at h1 h2
  rw[cC] at hR
  have hR':Ab Tryz.prog 236 [.d (Ac false b),iv 0,iv b.length,iv 16] (fun r=>r= .tup [.agg [iv a,iv q,iv c,iv n,bv k,.d (Ac true b'),.d (.sl true ks.length 5 (Hh true ks)),.d (.sl true ks.length 8 (Jm true ks))],erA 0 0]):=hR
  by_cases h3:q<b.length
  ·rw[Fu (show(S.mk a q c n k b' ks).stop<b.length from h3)]
   refine acQ 29 Tryz.func205 rfl rfl fun _ _ _=> ?_
   (repeat'((conv=>whnf);first|refine NBr.yes ?_|refine NCall.eq hR' Jo ?_|refine NFact.go ⟨by decide+kernel,by kernel_rfl⟩ ?_|(refine NBr.dec (fun hc hcP=> ?_) (fun hc hcP=> ?_)<;>try(exfalso;omega))));(all_goals(conv=>whnf))
   all_goals exact NEnd.eq leQ
  ·rw[H3 (show¬(S.mk a q c n k b' ks).stop<b.length from h3)]
   refine acQ 29 Tryz.func205 rfl rfl fun _ _ _=> ?_
   (repeat'((conv=>whnf);first|refine NBr.yes ?_|refine NCall.eq hR' Jo ?_|refine NFact.go ⟨by decide+kernel,by kernel_rfl⟩ ?_|(refine NBr.dec (fun hc hcP=> ?_) (fun hc hcP=> ?_)<;>try(exfalso;omega))));(all_goals(conv=>whnf))
   all_goals exact NEnd.eq leQ
 ·rw[Mk h] at hR
  obtain⟨l,c,o⟩:=r
  have hl:l=[]:=(hF.2 h).2
  subst hl
  have h':¬c=0:=h
  have hR':Ab Tryz.prog 236 [.d (Ac false b),iv 0,iv b.length,iv 16] (fun r=>r= .tup [Yf,erA c o]):=hR
  rw[Gr]
  refine acQ 29 Tryz.func205 rfl rfl fun _ _ _=> ?_
  (repeat'((conv=>whnf);first|refine NBr.no ?_|refine NCall.eq hR' Jo ?_|refine NFact.go ⟨by decide+kernel,by kernel_rfl⟩ ?_|(refine NBr.dec (fun hc hcP=> ?_) (fun hc hcP=> ?_)<;>try(exfalso;omega))));(all_goals(conv=>whnf))
  all_goals exact NEnd.eq leQ
theorem kG (b:List UInt8) (hb:b.length≤1000000000):Ab Tryz.prog 160 [.d (Ac false b)] (fun r=>r= .tup [.agg ((match C4 b with
 |⟨s::_,0,_⟩=>eV true s
 |_=>[.v (.int .i64 0),.v (.int .i64 0),.v (.bool false),.v (.slice none 0 0),.v (.slice none 0 0)]).map AV.d),erA (C4 b).code (C4 b).off]):=by
 have hR:=kF b hb
 have hF:=Ek b 16 b.length (by omega) 0 (by omega)
 dsimp only at hF
 have hW:((C4 b).code=0→∃s,C4 b=⟨[s],0,0⟩)∧((C4 b).code≠0→(C4 b).l=[]):=by
  unfold C4
  generalize Az b 16 0 b.length=r at hF
  by_cases h:r.code=0
  ·obtain⟨s,rfl,h1,h2⟩:=hF.1 h
   by_cases h3:s.stop<b.length
   ·rw[Fu h3];simp[SR.bad]
   ·rw[H3 h3];simp
  ·obtain⟨l,c,o⟩:=r
   have hl:l=[]:=(hF.2 h).2
   subst hl
   have h':¬c=0:=h
   rw[Gr];simp[SR.bad,h']
 generalize C4 b=r at hR hW⊢
 by_cases h:r.code=0
 ·obtain⟨s,rfl⟩:=hW.1 h
  obtain⟨a,q,c,n,k,b',ks⟩:=s
  rw[cC] at hR
  have hR':Ab Tryz.prog 205 [.d (Ac false b)] (fun r=>r= .tup [.agg [iv a,iv q,iv c,iv n,bv k,.d (Ac true b'),.d (.sl true ks.length 5 (Hh true ks)),.d (.sl true ks.length 8 (Jm true ks))],erA 0 0]):=hR
  refine acQ 14 Tryz.func160 rfl rfl fun _ _ _=> ?_
  (repeat'((conv=>whnf);first|refine NCall.eq hR' Jo ?_|refine NFact.go ⟨by decide+kernel,by kernel_rfl⟩ ?_));(all_goals(conv=>whnf))
  all_goals exact NEnd.eq leQ
 ·rw[Mk h] at hR
  obtain⟨l,c,o⟩:=r
  have hl:l=[]:=hW.2 h
  subst hl
  have h':¬c=0:=h
  have hR':Ab Tryz.prog 205 [.d (Ac false b)] (fun r=>r= .tup [Yf,erA c o]):=hR
  refine acQ 14 Tryz.func160 rfl rfl fun _ _ _=> ?_
  (repeat'((conv=>whnf);first|refine NCall.eq hR' Jo ?_|refine NFact.go ⟨by decide+kernel,by kernel_rfl⟩ ?_));(all_goals(conv=>whnf))
  all_goals exact NEnd.eq leQ
inductive Tr where
 |mk (c n:Nat) (k:Bool) (b:List UInt8) (ks:List Tr)
mutual
def Tr.cells (t:Bool):Tr→List D
 | .mk c n k b ks=>[.v (.int .i64 c),.v (.int .i64 n),.v (.bool k),Ac t b,.sl t ks.length 5 (Tr.cellss t ks)]
def Tr.cellss (t:Bool):List Tr→List D
 |[]=>[]
 |s::r=>s.cells t++Tr.cellss t r
end
structure TR where
 l:List Tr
 size:Nat
 code:Nat
 off:Nat
def TR.bad (code off:Nat):TR:=⟨[],0,code,off⟩
def Tl (sz:Nat) (x:Tr) (r:TR):TR:=if r.code=0 then⟨x::r.l,0,0,0⟩ else .bad r.code (sz+r.off)
theorem Rb {sz:Nat} {x:Tr} {r:TR} (h:r.code=0):Tl sz x r=⟨x::r.l,0,0,0⟩:=if_pos h
theorem Ke {sz:Nat} {x:Tr} {r:TR} (h:r.code≠0):Tl sz x r= .bad r.code (sz+r.off):=if_neg h
def kT (rd:List UInt8→TR):Nat→List UInt8→TR
 |0,_=>⟨[],0,0,0⟩
 |f+1,l=>if l.length=0 then⟨[],0,0,0⟩ else match rd l with
  |⟨t::_,sz,0,_⟩=>Tl sz t (kT rd f (l.drop sz))
  |r=> .bad r.code r.off
def Cb (rd:List UInt8→TR) (l:List UInt8):TR:=kT rd l.length l
theorem Nn {rd:List UInt8→TR} {f:Nat} {l:List UInt8} (h:l.length=0):kT rd f l=⟨[],0,0,0⟩:=by
 cases f with
 |zero=>rfl
 |succ f=>rw[kT,if_pos h]
theorem Vc {rd:List UInt8→TR} {f:Nat} {l:List UInt8} {t:Tr} {sz:Nat} (h:l.length≠0) (h1:rd l=⟨[t],sz,0,0⟩):kT rd (f+1) l=Tl sz t (kT rd f (l.drop sz)):=by
 rw[kT,if_neg h,h1];rfl
theorem eX {rd:List UInt8→TR} {f:Nat} {l:List UInt8} (h:l.length≠0) (h1:(rd l).code≠0):kT rd (f+1) l= .bad (rd l).code (rd l).off:=by
 rw[kT,if_neg h]
 generalize rd l=r at*
 obtain⟨l,s,c,o⟩:=r
 cases c with
 |zero=>exact absurd rfl h1
 |succ c=>cases l<;>rfl
def RdT (rd:List UInt8→TR):Prop:=∀l,((rd l).code=0→∃t sz,rd l=⟨[t],sz,0,0⟩∧2≤sz∧sz≤l.length)∧((rd l).code≠0→(rd l).off≤l.length∧(rd l).l=[]∧(rd l).size=0∧(rd l).code≤9)
theorem uD {rd:List UInt8→TR} (hr:RdT rd):∀(f g:Nat) (l:List UInt8),l.length≤f→f≤g→kT rd g l=kT rd f l:=by
 intro f
 induction f with
 |zero=>intro g l h1 h2;rw[Nn (by omega),Nn (by omega)]
 |succ f ih=>
  intro g l h1 h2
  obtain⟨g,rfl⟩:∃j,g=j+1:=⟨g-1,by omega⟩
  by_cases h3:l.length=0
  ·rw[Nn h3,Nn h3]
  ·by_cases h4:(rd l).code=0
   ·obtain⟨t,sz,e1,e2,e3⟩:=(hr l).1 h4
    rw[Vc h3 e1,Vc h3 e1,ih g _ (by rw[List.length_drop];omega) (by omega)]
   ·rw[eX h3 h4,eX h3 h4]
theorem Em {rd:List UInt8→TR} {l:List UInt8} (h:l.length=0):Cb rd l=⟨[],0,0,0⟩:=Nn h
theorem No {rd:List UInt8→TR} {l:List UInt8} (h:l.length≠0) (h1:(rd l).code≠0):Cb rd l= .bad (rd l).code (rd l).off:=by
 obtain⟨f,hf⟩:∃f,l.length=f+1:=⟨l.length-1,by omega⟩
 rw[Cb,hf];exact eX h h1
theorem Ir {rd:List UInt8→TR} (hr:RdT rd) {l:List UInt8} {t:Tr} {sz:Nat} (h:l.length≠0) (h1:rd l=⟨[t],sz,0,0⟩):Cb rd l=Tl sz t (Cb rd (l.drop sz)):=by
 obtain⟨f,hf⟩:∃f,l.length=f+1:=⟨l.length-1,by omega⟩
 have h2:(rd l).code=0:=by rw[h1]
 obtain⟨t',sz',e1,e2,e3⟩:=(hr l).1 h2
 have hs:sz'=sz:=by rw[h1] at e1;cases e1;rfl
 subst hs
 rw[Cb,hf,Vc h h1,Cb,uD hr (l.drop sz').length f _ (Nat.le_refl _) (by rw[List.length_drop];omega)]
theorem Yg {rd:List UInt8→TR} (hr:RdT rd):∀(f:Nat) (l:List UInt8),l.length≤f→((Cb rd l).code=0→Cb rd l=⟨(Cb rd l).l,0,0,0⟩)∧((Cb rd l).code≠0→(Cb rd l).off≤l.length∧(Cb rd l).code≤9):=by
 intro f
 induction f with
 |zero=>intro l h;rw[Em (by omega)];exact⟨fun _=>rfl,fun h=>absurd rfl h⟩
 |succ f ih=>
  intro l h
  by_cases h3:l.length=0
  ·rw[Em h3];exact⟨fun _=>rfl,fun h=>absurd rfl h⟩
  ·by_cases h4:(rd l).code=0
   ·obtain⟨t,sz,e1,e2,e3⟩:=(hr l).1 h4
    have ih':=ih (l.drop sz) (by rw[List.length_drop];omega)
    rw[Ir hr h3 e1]
    by_cases h5:(Cb rd (l.drop sz)).code=0
    ·rw[Rb h5];exact⟨fun _=>rfl,fun h=>absurd rfl h⟩
    ·rw[Ke h5]
     have:=ih'.2 h5
     rw[List.length_drop] at this
     exact⟨fun h=>absurd h h5,fun _=>⟨by simp only[TR.bad];omega,this.2⟩⟩
   ·rw[No h3 h4]
    exact⟨fun h=>absurd h h4,fun _=>⟨((hr l).2 h4).1,((hr l).2 h4).2.2.2⟩⟩
def rTH (rd:List UInt8→TR) (l:List UInt8) (h:Hd):TR:=
 if h.code≠0 then .bad h.code h.off
 else if l.length<h.size+h.len then .bad 1 l.length
 else if h.k=false then⟨[.mk h.c h.n false ((l.drop h.size).take h.len) []],h.size+h.len,0,0⟩
 else if(Cb rd ((l.drop h.size).take h.len)).code≠0 then .bad (Cb rd ((l.drop h.size).take h.len)).code (h.size+(Cb rd ((l.drop h.size).take h.len)).off)
 else⟨[.mk h.c h.n true [] (Cb rd ((l.drop h.size).take h.len)).l],h.size+h.len,0,0⟩
def rT:Nat→List UInt8→TR
 |0,_=> .bad 5 0
 |d+1,l=>rTH (rT d) l (rhS l)
theorem Tm:∀d,RdT (rT d):=by
 intro d
 induction d with
 |zero=>intro l;exact⟨fun h=>by simp[rT,TR.bad] at h,fun _=>by simp[rT,TR.bad]⟩
 |succ d ih=>
  intro l
  have hB:=Dl l
  simp only[rT]
  generalize rhS l=h at hB⊢
  obtain⟨c1,c2,c3,c4,c5,c6,c7⟩:=hB
  unfold rTH
  by_cases k1:h.code≠0
  ·rw[if_pos k1]
   exact⟨fun h'=>absurd h' k1,fun _=>⟨by simp only[TR.bad];omega,rfl,rfl,by simp only[TR.bad];omega⟩⟩
  rw[if_neg k1]
  have c1':=c1 (Decidable.not_not.1 k1)
  by_cases k2:l.length<h.size+h.len
  ·rw[if_pos k2]
   exact⟨fun h'=>by simp[TR.bad] at h',fun _=>by simp[TR.bad]⟩
  rw[if_neg k2]
  by_cases k3:h.k=false
  ·rw[if_pos k3]
   exact⟨fun _=>⟨_,_,rfl,by omega,by omega⟩,fun h'=>by simp at h'⟩
  rw[if_neg k3]
  have hK:=Yg ih _ ((l.drop h.size).take h.len) (Nat.le_refl _)
  have hl:((l.drop h.size).take h.len).length=h.len:=by rw[List.length_take,List.length_drop];omega
  rw[hl] at hK
  by_cases k4:(Cb (rT d) ((l.drop h.size).take h.len)).code≠0
  ·rw[if_pos k4]
   have:=hK.2 k4
   exact⟨fun h'=>absurd h' k4,fun _=>⟨by simp only[TR.bad];omega,rfl,rfl,this.2⟩⟩
  ·rw[if_neg k4]
   exact⟨fun _=>⟨_,_,rfl,by omega,by omega⟩,fun h'=>by simp at h'⟩
def Vd (n:Nat):TR→TR
 |⟨t::_,sz,0,_⟩=>if sz<n then .bad 2 sz else⟨[t],sz,0,0⟩
 |r=> .bad r.code r.off
theorem Ok {n sz:Nat} {t:Tr} (h:sz<n):Vd n ⟨[t],sz,0,0⟩= .bad 2 sz:=if_pos h
theorem Tn {n sz:Nat} {t:Tr} (h:¬sz<n):Vd n ⟨[t],sz,0,0⟩=⟨[t],sz,0,0⟩:=if_neg h
theorem Rc {n c o s:Nat}:Vd n ⟨[],s,c,o⟩= .bad c o:=by cases c<;>rfl
def Fp (d:Nat) (b:List UInt8):TR:=Vd b.length (rT d b)
theorem Sl (d:Nat) (b:List UInt8):((Fp d b).code=0→∃t,Fp d b=⟨[t],b.length,0,0⟩∧rT d b=⟨[t],b.length,0,0⟩)∧((Fp d b).code≠0→(Fp d b).l=[]∧(Fp d b).size=0∧(Fp d b).off≤b.length):=by
 have hF:=Tm d b
 unfold Fp
 generalize rT d b=r at hF⊢
 by_cases h:r.code=0
 ·obtain⟨t,sz,rfl,h1,h2⟩:=hF.1 h
  by_cases h3:sz<b.length
  ·rw[Ok h3];exact⟨fun h=>by simp[TR.bad] at h,fun _=>⟨rfl,rfl,h2⟩⟩
  ·have:sz=b.length:=by omega
   subst this
   rw[Tn h3];exact⟨fun _=>⟨t,rfl,rfl⟩,fun h=>absurd rfl h⟩
 ·obtain⟨l,s,c,o⟩:=r
  obtain⟨h1,h2,h3,h4⟩:=hF.2 h
  have h2:l=[]:=h2
  subst h2
  have h':¬c=0:=h
  rw[Rc]
  exact⟨fun h=>absurd h h',fun _=>⟨rfl,rfl,h1⟩⟩
def Tr.zero:Tr:= .mk 0 0 false [] []
def TR.tree (r:TR):Tr:=r.l.headD .zero
def pJ (b:List UInt8):Bool:=(Fp 16 b).code==0
mutual
def Tr.enc:Tr→List UInt8
 | .mk c n k b ks=>Qi (UInt8.ofNat (idN c k n)) (b++Tr.encs ks)
def Tr.encs:List Tr→List UInt8
 |[]=>[]
 |s::r=>s.enc++Tr.encs r
end
mutual
def Tr.ok:Tr→Prop
 | .mk c n _ _ ks=>c≤3∧n≤30∧Tr.oks ks
def Tr.oks:List Tr→Prop
 |[]=>True
 |s::r=>s.ok∧Tr.oks r
end
theorem Fv (x:UInt8) (c:List UInt8):(Qi x c).length=1+(F8 c.length).length+c.length:=by
 unfold Qi;simp;omega
theorem Tr.enc_pos (t:Tr):1≤t.enc.length:=by cases t;rw[Tr.enc,Fv];omega
theorem H4 (s:List UInt8):(Bj s).length≤5*(s.length+1):=by
 unfold Bj
 cases h:Dv s with
 |none=>simp
 |some a=>
  obtain⟨k1,k2,k3⟩:=Gq h
  have hal:=bZ h
  obtain⟨x,y,r,rfl,x2,xy,y2⟩:=Ej k1
  have hxy:40*x+y≤4294967295:=by
   by_cases hx:x<2
   ·have:=xy hx;omega
   ·omega
  have h1:=Tk true 4 (40*x+y) (by omega)
  have h2:=Mi r (fun n hn=>k2 n (by simp[hn]))
  simp only[List.length_cons] at hal
  simp only[X1,List.length_append];omega
def Tr.v:Tr→List UInt8
 | .mk _ _ _ b _=>b
def Tr.ks:Tr→List Tr
 | .mk _ _ _ _ ks=>ks
def Tr.n:Tr→Nat
 | .mk _ n _ _ _=>n
def Tr.kid (t:Tr) (i:Nat):Tr:=t.ks.getD i .zero
theorem pL (n:Nat):beV (I3 n)=n:=by
 induction n using Nat.strongRecOn with
 |_ n ih=>
  by_cases h:n<256
  ·rw[Cl h];simp[beV];omega
  ·rw[Hw h,Qf,ih (n/256) (by omega),UInt8.toNat_ofNat'];omega
theorem uE (n:Nat) (hn:n≤2147483647) (rest:List UInt8):rlS (F8 n++rest)=(n,(F8 n).length,0,0):=by
 have hL:=Ji 3 n (by omega)
 by_cases h:n<128
 ·rw[F8,if_pos h,Cl (by omega),List.singleton_append,Nh (by rw[UInt8.toNat_ofNat'];omega),UInt8.toNat_ofNat',Nat.mod_eq_of_lt (by omega)]
  rfl
 ·obtain⟨y,s,e,hy⟩:=S7 3 n (by omega) (by omega)
  have hb:beV (y::s)=n:=by rw[←e,pL]
  rw[e] at hL
  rw[List.length_cons] at hL
  have hk:(UInt8.ofNat (128+(y::s).length)).toNat=s.length+1+128:=by rw[UInt8.toNat_ofNat',List.length_cons];omega
  have ht:(y::(s++rest)).take (s.length+1)=y::s:=by simp
  rw[F8,if_neg h,e,List.cons_append,List.cons_append,bB hk (by omega) (by omega) (by simp) (by rw[ht,hb];omega),ht,hb]
  rfl
theorem uF {l:List UInt8} (h:(rlS l).2.2.1=0):l.take (rlS l).2.1=F8 (rlS l).1:=by
 cases l with
 |nil=>simp[rlS] at h
 |cons x r=>
  have hx:=x.toNat_lt
  by_cases h1:x.toNat<128
  ·rw[Nh h1]
   show(x::r).take 1=F8 x.toNat
   rw[F8,if_pos h1,Cl (by omega),Io];rfl
  by_cases h2:x.toNat=128∨x.toNat>132
  ·rw[Xn (by omega) h2] at h;cases h
  by_cases h3:r.length<x.toNat-128
  ·rw[S6 (by omega) (by omega) h3] at h;cases h
  cases r with
  |nil=>simp at h3;omega
  |cons y s=>
   rw[List.length_cons] at h3
   obtain⟨k,hk⟩:∃k,x.toNat=k+128:=⟨x.toNat-128,by omega⟩
   by_cases h4:y.toNat=0∨beV ((y::s).take k)<128∨beV ((y::s).take k)>2147483647
   ·rw[dV hk (by omega) (by omega) (by omega) h4] at h;cases h
   ·rw[bB hk (by omega) (by omega) (by omega) h4]
    obtain⟨j,rfl⟩:∃j,k=j+1:=⟨k-1,by omega⟩
    rw[List.take_succ_cons] at h4⊢
    show(x::y::s).take (j+1+1)=F8 (beV (y::s.take j))
    rw[List.take_succ_cons,List.take_succ_cons,F8,if_neg (by omega),(oC y (by omega) j _ (by rw[List.length_take];omega)).1,List.length_cons,List.length_take,show 128+(min j s.length+1)=x.toNat by omega,Io]
theorem yN (c n:Nat) (k:Bool):idN c k n=c*64+n+(if k then 32 else 0):=by unfold idN;cases k<;>simp<;>omega
theorem To {c n:Nat} (k:Bool) (hc:c≤3) (hn:n≤30):(UInt8.ofNat (idN c k n)).toNat=c*64+n+(if k then 32 else 0):=by
 have:=oH k hc hn
 rw[UInt8.toNat_ofNat',Nat.mod_eq_of_lt (by omega),yN]
theorem uG {c n:Nat} {k:Bool} (l rest:List UInt8) (hc:c≤3) (hn:n≤30) (hl:l.length≤2147483647):rhS (Ae c n k l++rest)=⟨c,n,k,l.length,(F8 l.length).length+1,0,0⟩:=by
 have hx:=To k hc hn
 unfold Ae Qi
 generalize UInt8.ofNat (idN c k n)=x at hx
 rw[List.cons_append,List.append_assoc,rhS,uE _ hl]
 cases k
 ·simp only[Bool.false_eq_true,ite_false,Nat.add_zero] at hx
  rw[if_neg (by omega),if_pos rfl,show x.toNat/64=c by omega,show x.toNat%32=n by omega,show(x.toNat/32%2==1)=false by rw[beq_eq_false_iff_ne];omega]
 ·simp only[ite_true] at hx
  rw[if_neg (by omega),if_pos rfl,show x.toNat/64=c by omega,show x.toNat%32=n by omega,show(x.toNat/32%2==1)=true by rw[beq_iff_eq];omega]
theorem eZ {l:List UInt8} (h:(rhS l).code=0) (hle:(rhS l).size+(rhS l).len≤l.length):l.take ((rhS l).size+(rhS l).len)=Ae (rhS l).c (rhS l).n (rhS l).k ((l.drop (rhS l).size).take (rhS l).len):=by
 cases l with
 |nil=>simp[rhS,Hd.bad] at h
 |cons x r=>
  have hx:=x.toNat_lt
  rw[rhS] at h hle⊢
  by_cases h1:x.toNat%32=31
  ·rw[if_pos h1] at h;simp[Hd.bad] at h
  rw[if_neg h1] at h hle⊢
  by_cases h2:(rlS r).2.2.1=0
  ·rw[if_pos h2] at h hle⊢
   have hi:=uF h2
   simp only[List.length_cons] at hle⊢
   rw[show(rlS r).2.1+1+(rlS r).1=(rlS r).2.1+(rlS r).1+1 by omega,List.take_succ_cons,List.drop_succ_cons]
   have hlen:((r.drop (rlS r).2.1).take (rlS r).1).length=(rlS r).1:=by rw[List.length_take,List.length_drop];omega
   unfold Ae Qi
   rw[hlen,←hi,←List.take_add]
   congr 1
   apply UInt8.toNat_inj.1
   rw[To _ (by omega) (by omega)]
   by_cases hb:x.toNat/32%2=1
   ·rw[show(x.toNat/32%2==1)=true from beq_iff_eq.2 hb,if_pos rfl];omega
   ·rw[show(x.toNat/32%2==1)=false from beq_eq_false_iff_ne.2 hb,if_neg (by simp)];omega
  ·rw[if_neg h2] at h;exact absurd h h2
structure Tv where
 c:Nat
 n:Nat
 k:Bool
 v:List UInt8
 deriving DecidableEq
def Tv.enc (t:Tv):List UInt8:=Ae t.c t.n t.k t.v
structure Tv.ok (t:Tv):Prop where
 c:t.c≤3
 n:t.n≤30
 v:t.v.length≤2147483647
def Tv.hd (t:Tv):Nat:=(F8 t.v.length).length+1
theorem Tv.len (t:Tv):t.enc.length=t.hd+t.v.length:=by
 unfold Tv.enc Tv.hd Ae Qi
 rw[List.length_cons,List.length_append];omega
theorem Tv.body (t:Tv):t.enc.drop t.hd=t.v:=by
 unfold Tv.enc Tv.hd Ae Qi
 rw[List.drop_succ_cons,List.drop_left]
theorem Tv.hd_pos (t:Tv) (h:t.ok):2≤t.hd:=by have:=L1 _ h.v;unfold Tv.hd;omega
theorem Tv.rh {t:Tv} (h:t.ok) (rest:List UInt8):rhS (t.enc++rest)=⟨t.c,t.n,t.k,t.v.length,t.hd,0,0⟩:=uG t.v rest h.c h.n h.v
theorem Tv.inj {t u:Tv} (ht:t.ok) (hu:u.ok) {r s:List UInt8} (h:t.enc++r=u.enc++s):t=u∧r=s:=by
 have h1:=Tv.rh ht r
 have h2:=Tv.rh hu s
 rw[h] at h1
 rw[h1] at h2
 injection h2 with e1 e2 e3 e4 e5
 have hb:t.enc=u.enc:=by
  have:=congrArg (List.take t.enc.length) h
  rw[List.take_left,show t.enc.length=u.enc.length by rw[Tv.len,Tv.len];omega,List.take_left] at this
  exact this
 have hv:t.v=u.v:=by rw[←t.body,←u.body,hb,show t.hd=u.hd from e5]
 obtain⟨a,b,c,d⟩:=t
 obtain⟨a',b',c',d'⟩:=u
 simp only at e1 e2 e3 hv
 subst e1 e2 e3 hv
 exact⟨rfl,List.append_cancel_left h⟩
def Tv.el (at':Nat) (t:Tv):El:=⟨t.c,t.n,t.k,at',at'+t.hd,at'+t.enc.length⟩
theorem fA {b pre rest:List UInt8} {t:Tv} {en:Nat} (ht:t.ok) (hb:b.take en=pre++(t.enc++rest)) (hen:en≤b.length):nxS b pre.length en=⟨t.el pre.length,0,0⟩:=by
 have hd:(b.drop pre.length).take (en-pre.length)=t.enc++rest:=by
  rw[←List.drop_take,hb,List.drop_left]
 have hl:en=pre.length+(t.enc++rest).length:=by
  have:=congrArg List.length hb
  rw[List.length_take,List.length_append] at this;omega
 rw[List.length_append] at hl
 have hr:=Tv.rh ht rest
 rw[←hd] at hr
 rw[nZ hr rfl (by have:=t.len;show t.hd+t.v.length≤_;omega)]
 simp only[Tv.el,Tv.len,Nat.add_assoc]
theorem fB {b:List UInt8} {at' en:Nat} (h1:at'≤en) (h2:en≤b.length) (h:(nxS b at' en).code=0):∃t:Tv,t.ok∧(nxS b at' en).x=t.el at'∧(b.drop at').take (en-at')=t.enc++(b.drop (at'+t.enc.length)).take (en-(at'+t.enc.length))∧at'+t.enc.length≤en:=by
 have hlen:((b.drop at').take (en-at')).length=en-at':=by rw[List.length_take,List.length_drop];omega
 have hB:=Dl ((b.drop at').take (en-at'))
 unfold nxS at h⊢
 by_cases k1:(rhS ((b.drop at').take (en-at'))).code≠0
 ·rw[if_pos k1] at h;exact absurd h k1
 rw[if_neg k1] at h⊢
 by_cases k2:en-at'<(rhS ((b.drop at').take (en-at'))).size+(rhS ((b.drop at').take (en-at'))).len
 ·rw[if_pos k2] at h;cases h
 rw[if_neg k2]
 have hi:=eZ (Decidable.not_not.1 k1) (by rw[hlen];omega)
 have hb:=hB.1 (Decidable.not_not.1 k1)
 generalize hL:(b.drop at').take (en-at')=L at hi hB hb k2 hlen⊢
 generalize hh:rhS L=hd at hi hB hb k2⊢
 obtain⟨-,c2,c3,c4,c5,c6,c7⟩:=hB
 have hv:((L.drop hd.size).take hd.len).length=hd.len:=by rw[List.length_take,List.length_drop];omega
 refine⟨⟨hd.c,hd.n,hd.k,(L.drop hd.size).take hd.len⟩,⟨c6,c7,by rw[hv];exact c4⟩,?_,?_,?_⟩
 ·have hl:=congrArg List.length hi
  rw[List.length_take] at hl
  have hl2:=Tv.len ⟨hd.c,hd.n,hd.k,(L.drop hd.size).take hd.len⟩
  have hl3:(Tv.enc ⟨hd.c,hd.n,hd.k,(L.drop hd.size).take hd.len⟩).length=hd.size+hd.len:=by
   show(Ae hd.c hd.n hd.k ((L.drop hd.size).take hd.len)).length=_
   omega
  have hl4:Tv.hd ⟨hd.c,hd.n,hd.k,(L.drop hd.size).take hd.len⟩=hd.size:=by rw[hl3] at hl2;simp only[hv] at hl2;omega
  simp only[Tv.el,hl3,hl4,Nat.add_assoc]
 ·have hl:=congrArg List.length hi
  rw[List.length_take] at hl
  show L=Ae hd.c hd.n hd.k ((L.drop hd.size).take hd.len)++(b.drop (at'+(Ae hd.c hd.n hd.k ((L.drop hd.size).take hd.len)).length)).take (en-(at'+(Ae hd.c hd.n hd.k ((L.drop hd.size).take hd.len)).length))
  rw[←hi,List.length_take]
  conv=>lhs;rw[←List.take_append_drop (hd.size+hd.len) L]
  congr 1
  rw[←hL,List.drop_take,List.drop_drop,hL,show min (hd.size+hd.len) L.length=hd.size+hd.len by omega]
  congr 1
  omega
 ·have hl:=congrArg List.length hi
  rw[List.length_take] at hl
  show at'+(Ae hd.c hd.n hd.k ((L.drop hd.size).take hd.len)).length≤en
  omega
theorem Fw {t:Tv} (ht:t.ok):Ap t.enc=⟨t.el 0,0,0⟩:=by
 have h:=fA (b:=t.enc) (pre:=[]) (rest:=[]) (en:=t.enc.length) ht (by simp) (Nat.le_refl _)
 rw[List.length_nil] at h
 unfold Ap
 rw[h,if_neg]
 rintro⟨-,h2⟩
 simp only[Tv.el] at h2
 omega
theorem Mm {b:List UInt8} (h:(Ap b).code=0):∃t:Tv,t.ok∧Ap b=⟨t.el 0,0,0⟩∧b=t.enc:=by
 have hF:=(Cm b).1 h
 unfold Ap at h hF⊢
 by_cases k:(nxS b 0 b.length).code=0∧(nxS b 0 b.length).x.stop<b.length
 ·rw[if_pos k] at h;cases h
 rw[if_neg k] at h hF⊢
 obtain⟨t,h1,h2,h3,h4⟩:=fB (Nat.zero_le _) (Nat.le_refl _) h
 have hs:=hF.2.2.2.1
 rw[h2] at hs
 simp only[Tv.el,Nat.zero_add] at hs
 refine⟨t,h1,?_,?_⟩
 ·generalize nxS b 0 b.length=r at h h2 hF
  obtain⟨x,c,o⟩:=r
  simp only at h h2 hF
  rw[h,h2,hF.2.2.2.2]
 ·rw[List.drop_zero,Nat.sub_zero,List.take_length,hs,Nat.zero_add,Nat.sub_self,List.take_zero,List.append_nil] at h3
  exact h3
def Bu (ts:List Tv):List UInt8:=ts.flatMap Tv.enc
def els:Nat→List Tv→List El
 |_,[]=>[]
 |at',t::r=>t.el at'::els (at'+t.enc.length) r
theorem Br (t:Tv) (r:List Tv):Bu (t::r)=t.enc++Bu r:=List.flatMap_cons
theorem enc_pos {t:Tv} (h:t.ok):2≤t.enc.length:=by have:=t.hd_pos h;rw[Tv.len];omega
theorem Kf:∀(ts:List Tv) (b pre:List UInt8) (en:Nat),(∀t∈ts,t.ok)→b.take en=pre++Bu ts→en≤b.length→Bf b pre.length en=⟨els pre.length ts,0,0⟩
 |[],b,pre,en,_,hb,hen=>by
  have:=congrArg List.length hb
  rw[List.length_take,List.length_append] at this
  rw[Nj (by show¬pre.length<en;simp[Bu] at this;omega)];rfl
 |t::r,b,pre,en,ht,hb,hen=>by
  have h0:=ht t (by simp)
  rw[Br] at hb
  have hx:=fA h0 hb hen
  have hl:=congrArg List.length hb
  rw[List.length_take,List.length_append,List.length_append] at hl
  have hp:=enc_pos h0
  have ih:=Kf r b (pre++t.enc) en (fun u hu=>ht u (by simp[hu])) (by rw[hb,List.append_assoc]) hen
  rw[List.length_append] at ih
  have hst:(nxS b pre.length en).x.stop=pre.length+t.enc.length:=by rw[hx];rfl
  rw[K9 hen (by omega) (by rw[hx]),hst,ih,if_neg (by simp),hx];rfl
theorem Np:∀(f:Nat) (b:List UInt8) (at' en:Nat),en-at'≤f→at'≤en→en≤b.length→(Bf b at' en).code=0→∃ts:List Tv,(∀t∈ts,t.ok)∧Bf b at' en=⟨els at' ts,0,0⟩∧(b.drop at').take (en-at')=Bu ts
 |f,b,at',en,hf,h1,h2,h=>by
  by_cases hlt:at'<en
  ·by_cases k:(nxS b at' en).code≠0
   ·rw[Ta hlt k] at h;exact absurd h k
   ·have k':=Decidable.not_not.1 k
    obtain⟨t,t1,t2,t3,t4⟩:=fB h1 h2 k'
    have hp:=enc_pos t1
    have hs:=K9 h2 hlt k'
    have hst:(nxS b at' en).x.stop=at'+t.enc.length:=by rw[t2];rfl
    rw[hst] at hs
    by_cases k3:(Bf b (at'+t.enc.length) en).code≠0
    ·rw[hs,if_pos k3] at h;exact absurd h k3
    ·match f,hf with
     |0,hf=>omega
     |f+1,hf=>
      obtain⟨ts,e1,e2,e3⟩:=Np f b (at'+t.enc.length) en (by omega) t4 h2 (Decidable.not_not.1 k3)
      refine⟨t::ts,fun u hu=> ?_,?_,?_⟩
      ·rcases List.mem_cons.1 hu with rfl|hu
       ·exact t1
       ·exact e1 u hu
      ·rw[hs,if_neg k3,e2,t2];rfl
      ·rw[t3,e3];rfl
  ·refine⟨[],by simp,?_,?_⟩
   ·rw[Nj hlt];rfl
   ·rw[show en-at'=0 by omega];rfl
end Go.Proofs.YtgpaehhbdbgeaaaGreatDoor
