/- MI: the texts OidP Pre Str Oid Oid2 OidE OidL OidR OidS Tree Tree2 Tree3 Tree4 T T2 T3 Ref10 Pl, one behind the other. No condition but what each lemma says. -/
import Derived.Lib.SplitLaws
import Derived.Lib.ParseIntBCases
import Derived.Test.YtokmjjkbginodaaGreatDoorME
import Derived.Lib.ItoaMem
set_option maxRecDepth 100000
set_option maxHeartbeats 16000000
namespace Go.Proofs.YtokmjjkbginodaaGreatDoor
open Go
def Fj:List UInt8→List (List UInt8)
 |[]=>[[]]
 |c::r=>if c=46 then []::Fj r else match Fj r with
  |p::ps=>(c::p)::ps
  |[]=>[[c]]
def Ot (cur:List UInt8):List UInt8→List (List UInt8)
 |[]=>[cur]
 |c::r=>if c=46 then cur::Ot [] r else Ot (cur++[c]) r
theorem Jz:∀s,∃p ps,Fj s=p::ps
 |[]=>⟨_,_,rfl⟩
 |c::r=>by
  obtain⟨p,ps,h⟩:=Jz r
  unfold Fj
  by_cases hc:c=46
  ·rw[if_pos hc];exact⟨_,_,rfl⟩
  ·rw[if_neg hc,h];exact⟨_,_,rfl⟩
theorem Vb:∀(s cur:List UInt8) {p ps},Fj s=p::ps→Ot cur s=(cur++p)::ps
 |[],cur,p,ps,h=>by
  rw[Fj] at h;cases h;rw[Ot,List.append_nil]
 |c::r,cur,p,ps,h=>by
  obtain⟨q,qs,h'⟩:=Jz r
  rw[Fj] at h
  rw[Ot]
  by_cases hc:c=46
  ·rw[if_pos hc] at h⊢
   cases h
   rw[Vb r [] h',List.append_nil,List.nil_append,h']
  ·rw[if_neg hc,h'] at h
   rw[if_neg hc,Vb r _ h']
   cases h
   simp
theorem tG (s:List UInt8):Ot [] s=Fj s:=by
 obtain⟨p,ps,h⟩:=Jz s
 rw[Vb s [] h,h];rfl
open Lib in
theorem aM {c:UInt8} {r:List UInt8} (hc:c≠46):index (c::r) [46]=if index r [46]== -1 then-1 else index r [46]+1:=by
 rw[index];simp[List.isPrefixOf,Ne.symm hc]
open Lib in
theorem tH {c:UInt8} (hc:c≠46):∀(k:Nat) (r:List UInt8) {p ps},splitK [46] 0 k r=p::ps→splitK [46] 0 k (c::r)=(c::p)::ps
 |0,r,p,ps,h=>by rw[splitK] at h⊢;cases h;rfl
 |k+1,r,p,ps,h=>by
  have hx:=aM (r:=r) hc
  have hg:=index_ge r [46]
  rw[splitK] at h⊢
  by_cases hm:index r [46]= -1
  ·rw[if_pos (beq_iff_eq.2 hm)] at h
   rw[if_pos (beq_iff_eq.2 hm)] at hx
   rw[if_pos (beq_iff_eq.2 hx)]
   cases h;rfl
  ·rw[if_neg (fun e=>hm (beq_iff_eq.1 e))] at h hx
   rw[if_neg (by rw[beq_iff_eq];omega),hx]
   cases h
   obtain⟨j,hj⟩:∃j:Nat,index r [46]=j:=⟨(index r [46]).toNat,by omega⟩
   rw[hj]
   rw[show((j:Int)+1).toNat=j+1 by omega,show(j:Int).toNat=j by omega]
   simp
open Lib in
theorem Vc:∀s:List UInt8,splitK [46] 0 (s.count 46) s=Fj s
 |[]=>rfl
 |c::r=>by
  obtain⟨p,ps,h⟩:=Jz r
  have ih:=Vc r
  rw[Fj]
  by_cases hc:c=46
  ·subst hc
   rw[if_pos rfl,List.count_cons_self,splitK]
   have hx:index (46::r) [46]=0:=by rw[index];simp[List.isPrefixOf]
   rw[if_neg (by rw[hx];decide),hx,←ih]
   simp
  ·rw[if_neg hc,h,List.count_cons_of_ne (fun e=>hc e),tH hc _ _ (ih.trans h)]
open Lib in
theorem Sw (s:List UInt8):splitB ⟨#[46]⟩ 0 (countB ⟨⟨s⟩⟩ ⟨#[46]⟩) ⟨⟨s⟩⟩=(Fj s).map fun p=>⟨⟨p⟩⟩:=by
 have h1:=splitB_data ⟨#[46]⟩ 0 (countB ⟨⟨s⟩⟩ ⟨#[46]⟩) ⟨⟨s⟩⟩
 have h2:countB ⟨⟨s⟩⟩ ⟨#[46]⟩=s.count 46:=count_one 46 s
 rw[h2] at h1⊢
 rw[show splitK ((⟨#[46]⟩:ByteArray).data.toList) 0 (s.count 46) ((⟨⟨s⟩⟩:ByteArray).data.toList)=Fj s from Vc s] at h1
 rw[←h1,List.map_map]
 conv=>lhs;rw[←List.map_id (splitB ⟨#[46]⟩ 0 (s.count 46) ⟨⟨s⟩⟩)]
 exact List.map_congr_left fun x _=>rfl
def Od (l:List UInt8):Option Nat:=match Lib.parseUintB 32 l with
 | .ok u=>if Lib.decDigits u=l then some u else none
 |_=>none
theorem Qj {u:Nat} (h:u<10):(UInt8.ofNat (48+u)).toNat=48+u:=by rw[UInt8.toNat_ofNat'];omega
theorem aN:∀(n:Nat) (b:UInt8),b∈Lib.decDigits n→48≤b.toNat∧b.toNat≤57:=by
 intro n
 induction n using Nat.strongRecOn with
 |_ n ih=>
  intro b hb
  rw[Lib.decDigits] at hb
  by_cases h:n<10
  ·rw[dif_pos h,List.mem_singleton] at hb
   subst hb;rw[Qj h];omega
  ·rw[dif_neg h,List.mem_append,List.mem_singleton] at hb
   rcases hb with hb|hb
   ·exact ih (n/10) (by omega) b hb
   ·subst hb;rw[Qj (by omega)];omega
def Qk (acc:Nat) (l:List UInt8):Nat:=l.foldl (fun a c=>a*10+(c.toNat-48)) acc
theorem K1 (acc:Nat) (c:UInt8) (r:List UInt8):Qk acc (c::r)=Qk (acc*10+(c.toNat-48)) r:=by unfold Qk;rw[List.foldl_cons]
theorem Vd (acc:Nat):Qk acc []=acc:=rfl
theorem eT (l m:List UInt8) (acc:Nat):Qk acc (l++m)=Qk (Qk acc l) m:=by unfold Qk;exact List.foldl_append
theorem Ql (n:Nat):Qk 0 (Lib.decDigits n)=n:=by
 induction n using Nat.strongRecOn with
 |_ n ih=>
  rw[Lib.decDigits]
  by_cases h:n<10
  ·rw[dif_pos h,K1,Vd,Qj h];omega
  ·rw[dif_neg h,eT,ih (n/10) (by omega),K1,Vd,Qj (by omega)];omega
theorem aO:∀(l:List UInt8) (acc:Nat),acc≤Qk acc l
 |[],_=>Nat.le_refl _
 |c::r,acc=>by
  have:=aO r (acc*10+(c.toNat-48))
  rw[K1];omega
open Lib in
theorem Yr:∀(l:List UInt8) (acc:Nat),(∀b∈l,48≤b.toNat∧b.toNat≤57)→Qk acc l≤4294967295→parseUintM 4294967295 acc l= .ok (Qk acc l)
 |[],_,_,_=>rfl
 |c::r,acc,h1,h2=>by
  have hc:=h1 c (by simp)
  have hg:=aO r (acc*10+(c.toNat-48))
  rw[K1] at h2⊢
  rw[parseUintM,if_pos hc,if_neg (by omega),if_neg (by omega)]
  exact Yr r _ (fun b hb=>h1 b (by simp[hb])) h2
theorem zJ (n:Nat):Lib.decDigits n≠[]:=by
 intro h
 have:=Lib.decDigits_length n
 have h2:=Lib.nDigits_pos n
 rw[h] at this;simp at this;omega
theorem eU {n:Nat} (h:n≤4294967295):Od (Lib.decDigits n)=some n:=by
 have h1:=Yr (Lib.decDigits n) 0 (aN n) (by rw[Ql];exact h)
 rw[Ql] at h1
 unfold Od Lib.parseUintB
 rw[if_neg (zJ n),show 2^32-1=4294967295 from rfl,h1]
 simp
theorem Ny {l:List UInt8} {n:Nat} (h:Od l=some n):n≤4294967295∧Lib.decDigits n=l:=by
 unfold Od at h
 split at h
 ·rename_i u hu
  split at h
  ·rename_i he
   cases h
   exact⟨by have:=Lib.parseUintB_le hu;omega,he⟩
  ·cases h
 ·cases h
def C0:List Nat→Bool
 |x::y::_=>decide (x≤2)&&(if x<2 then decide (y<40) else decide (y≤4294967215))
 |_=>false
def Dy (ps:List (List UInt8)):Option (List Nat):=match ps with
 |[]=>some []
 |p::r=>match Od p,Dy r with
  |some n,some l=>some (n::l)
  |_,_=>none
def Ex (s:List UInt8):Option (List Nat):=match Dy (Fj s) with
 |some a=>if C0 a then some a else none
 |none=>none
def Cd:List Nat→List UInt8
 |[]=>[]
 |[n]=>Lib.decDigits n
 |n::m::r=>Lib.decDigits n++46::Cd (m::r)
theorem Ve:∀(p:List UInt8),(46:UInt8)∉p→Fj p=[p]
 |[],_=>rfl
 |c::r,h=>by
  have h':c≠46:=fun e=>h (by simp[e])
  rw[Fj,if_neg h',Ve r (fun e=>h (by simp[e]))]
theorem Sx:∀(p q:List UInt8),(46:UInt8)∉p→Fj (p++46::q)=p::Fj q
 |[],q,_=>by rw[List.nil_append,Fj,if_pos rfl]
 |c::r,q,h=>by
  have h':c≠46:=fun e=>h (by simp[e])
  rw[List.cons_append,Fj,if_neg h',Sx r q (fun e=>h (by simp[e]))]
theorem oG (n:Nat):(46:UInt8)∉Lib.decDigits n:=fun h=>by
 have:=aN n _ h
 simp at this
theorem Ys:∀(a:List Nat),a≠[]→Fj (Cd a)=a.map Lib.decDigits
 |[],h=>absurd rfl h
 |[n],_=>by rw[Cd,Ve _ (oG n)];rfl
 |n::m::r,_=>by rw[Cd,Sx _ _ (oG n),Ys (m::r) (by simp)];rfl
theorem Yt:∀(a:List Nat),(∀n∈a,n≤4294967295)→Dy (a.map Lib.decDigits)=some a
 |[],_=>rfl
 |n::r,h=>by
  rw[List.map_cons,Dy,eU (h n (by simp)),Yt r (fun m hm=>h m (by simp[hm]))]
theorem Ey {a:List Nat} (h:C0 a=true):∃x y r,a=x::y::r∧x≤2∧(x<2→y<40)∧y≤4294967215:=by
 match a,h with
 |x::y::r,h=>
  rw[C0,At,decide_eq_true_eq] at h
  refine⟨x,y,r,rfl,h.1,fun hx=> ?_,?_⟩
  ·have:=h.2;rw[if_pos hx,decide_eq_true_eq] at this;exact this
  ·have:=h.2
   by_cases hx:x<2
   ·rw[if_pos hx,decide_eq_true_eq] at this;omega
   ·rw[if_neg hx,decide_eq_true_eq] at this;exact this
theorem Vf {a:List Nat} (h:C0 a=true) (hb:∀n∈a,n≤4294967295):Ex (Cd a)=some a:=by
 obtain⟨x,y,r,rfl,-⟩:=Ey h
 rw[Ex,Ys _ (by simp),Yt _ hb]
 exact if_pos h
theorem Vg:∀{ps:List (List UInt8)} {a:List Nat},Dy ps=some a→ps=a.map Lib.decDigits∧∀n∈a,n≤4294967295
 |[],a,h=>by rw[Dy] at h;cases h;simp
 |p::r,a,h=>by
  rw[Dy] at h
  split at h
  ·rename_i n l h1 h2
   cases h
   obtain⟨k1,k2⟩:=Ny h1
   obtain⟨k3,k4⟩:=Vg h2
   refine⟨by rw[List.map_cons,k2,←k3],fun m hm=> ?_⟩
   rcases List.mem_cons.1 hm with rfl|hm
   ·exact k1
   ·exact k4 m hm
  ·cases h
theorem tI:∀(s:List UInt8) (a:List Nat),Fj s=a.map Lib.decDigits→Cd a=s:=by
 intro s
 have gen:∀(s:List UInt8) (p:List UInt8) (ps:List (List UInt8)),Fj s=p::ps→s=p++(ps.flatMap fun q=>46::q):=by
  intro s
  induction s with
  |nil=>intro p ps h;rw[Fj] at h;cases h;rfl
  |cons c r ih=>
   intro p ps h
   obtain⟨q,qs,h'⟩:=Jz r
   have h2:=ih q qs h'
   rw[Fj] at h
   by_cases hc:c=46
   ·rw[if_pos hc,h'] at h
    cases h
    rw[List.nil_append,List.flatMap_cons,List.cons_append,←h2,hc]
   ·rw[if_neg hc,h'] at h
    cases h
    rw[List.cons_append,←h2]
 intro a h
 have tl:∀(m:Nat) (r:List Nat),Cd (m::r)=Lib.decDigits m++((r.map Lib.decDigits).flatMap fun q=>46::q):=by
  intro m r
  induction r generalizing m with
  |nil=>rw[Cd];simp
  |cons k r ih=>rw[Cd,ih k];simp
 match a,h with
 |[],h=>obtain⟨q,qs,h'⟩:=Jz s;rw[h'] at h;cases h
 |m::r,h=>rw[tl,←gen s _ _ h]
theorem Hu {s:List UInt8} {a:List Nat} (h:Ex s=some a):C0 a=true∧(∀n∈a,n≤4294967295)∧Cd a=s:=by
 unfold Ex at h
 split at h
 ·rename_i a' h1
  split at h
  ·rename_i h2
   cases h
   obtain⟨k1,k2⟩:=Vg h1
   exact⟨h2,k2,tI s a k1⟩
  ·cases h
 ·cases h
def Cm (last:Bool) (n:Nat):List UInt8:=
 if h:n<128 then [UInt8.ofNat (n%128+if last then 0 else 128)] else Cm false (n/128)++[UInt8.ofNat (n%128+if last then 0 else 128)]
termination_by n
decreasing_by omega
theorem Dt (l:Bool) {n:Nat} (h:n<128):Cm l n=[UInt8.ofNat (n%128+if l then 0 else 128)]:=by rw[Cm,dif_pos h]
theorem Gb (l:Bool) {n:Nat} (h:¬n<128):Cm l n=Cm false (n/128)++[UInt8.ofNat (n%128+if l then 0 else 128)]:=by rw[Cm,dif_neg h]
def Mt:List Nat→List UInt8
 |x::y::r=>Cm true (40*x+y)++r.flatMap (Cm true)
 |_=>[]
def Cn:Bool→Nat→List UInt8→Option (List Nat)
 |b,_,[]=>if b then none else some []
 |b,n,x::r=>if b=false∧x=128 then none else if n*128+x.toNat%128>4294967295 then none else if x.toNat<128 then(match Cn false 0 r with
  |some l=>some ((n*128+x.toNat%128)::l)
  |none=>none) else Cn true (n*128+x.toNat%128) r
def G7:Nat→List UInt8→Option (List Nat)
 |_,[]=>some []
 |n,x::r=>if n*128+x.toNat%128>4294967295 then none else if x.toNat<128 then(match G7 0 r with
  |some l=>some ((n*128+x.toNat%128)::l)
  |none=>none) else G7 (n*128+x.toNat%128) r
def Ch:List Nat→List Nat
 |[]=>[]
 |n::r=>min (n/40) 2::(n-40*min (n/40) 2)::r
theorem G8 {l:List Nat} (hl:l≠[]) (hb:∀n∈l,n≤4294967295):C0 (Ch l)=true∧(∀n∈Ch l,n≤4294967295)∧Mt (Ch l)=l.flatMap (Cm true):=by
 match l,hl with
 |n::r,_=>
  have hn:=hb n (by simp)
  refine⟨?_,?_,?_⟩
  ·rw[Ch,C0,At,decide_eq_true_eq]
   refine⟨by omega,?_⟩
   split<;>rw[decide_eq_true_eq]<;>omega
  ·intro m hm
   rw[Ch,List.mem_cons,List.mem_cons] at hm
   rcases hm with rfl|rfl|hm
   ·omega
   ·omega
   ·exact hb m (by simp[hm])
  ·rw[Ch,Mt,show 40*min (n/40) 2+(n-40*min (n/40) 2)=n by omega];rfl
def Mv (c:List UInt8):Option (List Nat):=match Cn false 0 c with
 |some (n::r)=>some (Ch (n::r))
 |_=>none
theorem FZ (l:Bool) (n:Nat):Cm l n≠[]:=by
 rw[Cm];split<;>simp
theorem PG {n:Nat}:(UInt8.ofNat (n%128+if true=true then 0 else 128)).toNat=n%128:=by
 rw[if_pos rfl,UInt8.toNat_ofNat'];omega
theorem LQ {n:Nat}:(UInt8.ofNat (n%128+if false=true then 0 else 128)).toNat=n%128+128:=by
 rw[if_neg (by simp),UInt8.toNat_ofNat'];omega
theorem lC:∀(n:Nat) (r:List UInt8),1≤n→n≤4294967295→Cn false 0 (Cm false n++r)=Cn true n r:=by
 intro n
 induction n using Nat.strongRecOn with
 |_ n ih=>
  intro r h1 h2
  have hx:=LQ (n:=n)
  by_cases h:n<128
  ·rw[Dt _ h]
   generalize UInt8.ofNat (n%128+if false=true then 0 else 128)=x at hx
   rw[List.singleton_append,Cn,if_neg (by rintro⟨-,rfl⟩;simp at hx;omega),if_neg (by omega),if_neg (by omega)]
   rw[show 0*128+x.toNat%128=n by omega]
  ·rw[Gb _ h,List.append_assoc,List.singleton_append,ih (n/128) (by omega) _ (by omega) (by omega)]
   generalize UInt8.ofNat (n%128+if false=true then 0 else 128)=x at hx
   rw[Cn,if_neg (by simp),if_neg (by omega),if_neg (by omega)]
   rw[show n/128*128+x.toNat%128=n by omega]
theorem tJ (n:Nat) (r:List UInt8) (h2:n≤4294967295):Cn false 0 (Cm true n++r)=(Cn false 0 r).map (n:: ·):=by
 have hx:=PG (n:=n)
 by_cases h:n<128
 ·rw[Dt _ h]
  generalize UInt8.ofNat (n%128+if true=true then 0 else 128)=x at hx
  rw[List.singleton_append,Cn,if_neg (by rintro⟨-,rfl⟩;simp at hx;omega),if_neg (by omega),if_pos (by omega)]
  rw[show 0*128+x.toNat%128=n by omega]
  cases Cn false 0 r<;>rfl
 ·rw[Gb _ h,List.append_assoc,List.singleton_append,lC _ _ (by omega) (by omega)]
  generalize UInt8.ofNat (n%128+if true=true then 0 else 128)=x at hx
  rw[Cn,if_neg (by simp),if_neg (by omega),if_pos (by omega)]
  rw[show n/128*128+x.toNat%128=n by omega]
  cases Cn false 0 r<;>rfl
theorem Yu:∀(l:List Nat),(∀n∈l,n≤4294967295)→Cn false 0 (l.flatMap (Cm true))=some l
 |[],_=>rfl
 |n::r,h=>by
  rw[List.flatMap_cons,tJ n _ (h n (by simp)),Yu r (fun m hm=>h m (by simp[hm]))];rfl
theorem Ja:∀(c:List UInt8) (b:Bool) (n:Nat) (l:List Nat),n≤4294967295→(b=true→1≤n)→(b=false→n=0)→Cn b n c=some l→(if b then Cm false n else [])++c=l.flatMap (Cm true)∧∀m∈l,m≤4294967295
 |[],b,n,l,_,_,_,h=>by
  cases b
  ·rw[Cn] at h;cases h;simp
  ·rw[Cn] at h;cases h
 |x::r,b,n,l,hn,hb,hb0,h=>by
  rw[Cn] at h
  have hxl:=x.toNat_lt
  by_cases h1:b=false∧x=128
  ·rw[if_pos h1] at h;cases h
  rw[if_neg h1] at h
  by_cases h2:n*128+x.toNat%128>4294967295
  ·rw[if_pos h2] at h;cases h
  rw[if_neg h2] at h
  have hx0:b=false→x.toNat≠128:=fun e e'=>h1 ⟨e,by
   apply UInt8.toNat_inj.1;simpa using e'⟩
  have e1:∀last:Bool,(if last then x.toNat<128 else 128≤x.toNat)→Cm last (n*128+x.toNat%128)=(if b then Cm false n else [])++[x]:=by
   intro last hlast
   have hx:UInt8.ofNat ((n*128+x.toNat%128)%128+if last=true then 0 else 128)=x:=by
    apply UInt8.toNat_inj.1
    rw[UInt8.toNat_ofNat']
    cases last<;>simp at hlast⊢ <;>omega
   cases b
   ·have:=hb0 rfl
    subst this
    rw[Dt _ (by omega),hx];rfl
   ·have:=hb rfl
    rw[Gb _ (by omega),hx,show(n*128+x.toNat%128)/128=n by omega];rfl
  by_cases h3:x.toNat<128
  ·rw[if_pos h3] at h
   split at h
   ·rename_i l' hl'
    cases h
    obtain⟨k1,k2⟩:=Ja r false 0 l' (by omega) (by simp) (fun _=>rfl) hl'
    rw[List.flatMap_cons,←k1,e1 true (by simpa using h3)]
    refine⟨by simp,fun m hm=> ?_⟩
    rcases List.mem_cons.1 hm with rfl|hm
    ·omega
    ·exact k2 m hm
   ·cases h
  ·rw[if_neg h3] at h
   have hm:1≤n*128+x.toNat%128:=by
    cases b
    ·have:=hx0 rfl;omega
    ·have:=hb rfl;omega
   obtain⟨k1,k2⟩:=Ja r true _ l (by omega) (fun _=>hm) (by simp) h
   refine⟨?_,k2⟩
   rw[←k1,if_pos rfl,e1 false (by simpa using h3)]
   simp
theorem Vh:∀(c:List UInt8) (b:Bool) (n:Nat) (l:List Nat),Cn b n c=some l→G7 n c=some l
 |[],b,n,l,h=>by
  cases b
  ·rw[Cn] at h;cases h;rfl
  ·rw[Cn] at h;cases h
 |x::r,b,n,l,h=>by
  rw[Cn] at h
  rw[G7]
  by_cases h1:b=false∧x=128
  ·rw[if_pos h1] at h;cases h
  rw[if_neg h1] at h
  by_cases h2:n*128+x.toNat%128>4294967295
  ·rw[if_pos h2] at h;cases h
  rw[if_neg h2] at h⊢
  by_cases h3:x.toNat<128
  ·rw[if_pos h3] at h⊢
   split at h
   ·rename_i l' hl'
    rw[Vh r false 0 l' hl'];exact h
   ·cases h
  ·rw[if_neg h3] at h⊢
   exact Vh r true _ l h
theorem Qm:∀(c:List UInt8) (n:Nat) (l:List Nat),G7 n c=some l→∀m∈l,m≤4294967295
 |[],n,l,h=>by rw[G7] at h;cases h;simp
 |x::r,n,l,h=>by
  rw[G7] at h
  by_cases h2:n*128+x.toNat%128>4294967295
  ·rw[if_pos h2] at h;cases h
  rw[if_neg h2] at h
  by_cases h3:x.toNat<128
  ·rw[if_pos h3] at h
   split at h
   ·rename_i l' hl'
    cases h
    intro m hm
    rcases List.mem_cons.1 hm with rfl|hm
    ·omega
    ·exact Qm r 0 l' hl' m hm
   ·cases h
  ·rw[if_neg h3] at h
   exact Qm r _ l h
theorem Yv {c:List UInt8} {a:List Nat} (h:Mv c=some a):C0 a=true∧(∀n∈a,n≤4294967295)∧Mt a=c:=by
 unfold Mv at h
 split at h
 ·rename_i n r h1
  cases h
  obtain⟨k1,k2⟩:=Ja c false 0 _ (by omega) (by simp) (fun _=>rfl) h1
  obtain⟨k3,k4,k5⟩:=G8 (l:=n::r) (by simp) k2
  exact⟨k3,k4,by rw[k5,←k1];rfl⟩
 ·cases h
theorem tK {x y:Nat} {r:List Nat} (h:C0 (x::y::r)=true):Ch ((40*x+y)::r)=x::y::r:=by
 obtain⟨x',y',r',e,h1,h2,h3⟩:=Ey h
 cases e
 rw[Ch]
 have:min ((40*x+y)/40) 2=x:=by
  by_cases hx:x<2
  ·have:=h2 hx;omega
  ·omega
 rw[this,show 40*x+y-40*x=y by omega]
theorem eV {a:List Nat} (h:C0 a=true) (hb:∀n∈a,n≤4294967295):Mv (Mt a)=some a:=by
 obtain⟨x,y,r,rfl,h1,h2,h3⟩:=Ey h
 have:=Yu ((40*x+y)::r) (fun m hm=>by
  rcases List.mem_cons.1 hm with rfl|hm
  ·by_cases hx:x<2
   ·have:=h2 hx;omega
   ·omega
  ·exact hb m (by simp[hm]))
 rw[List.flatMap_cons] at this
 rw[Mt,Mv,this]
 simp only[tK h]
def Bq (s:List UInt8):List UInt8:=match Ex s with
 |some a=>Mt a
 |none=>[]
def Xq (s:List UInt8):Nat:=match Ex s with
 |some _=>0
 |none=>8
def odT (c:List UInt8):List UInt8:=match Mv c with
 |some a=>Cd a
 |none=>[]
def odC (c:List UInt8):Nat:=match Mv c with
 |some _=>0
 |none=>6
def E6 (s:List UInt8):Bool:=(Ex s).isSome
theorem Rx (s:List UInt8):E6 s=true↔Xq s=0:=by
 unfold E6 Xq;cases Ex s<;>simp
theorem Vi {s:List UInt8} (h:E6 s=true):odT (Bq s)=s∧odC (Bq s)=0:=by
 obtain⟨a,ha⟩:=Option.isSome_iff_exists.1 h
 obtain⟨k1,k2,k3⟩:=Hu ha
 have:=eV k1 k2
 unfold odT odC Bq
 rw[ha]
 simp only[this]
 exact⟨k3,trivial⟩
theorem lD {c:List UInt8} (h:odC c=0):E6 (odT c)=true∧Bq (odT c)=c:=by
 unfold odC at h
 unfold odT E6 Bq
 cases hd:Mv c with
 |none=>rw[hd] at h;cases h
 |some a=>
  obtain⟨k1,k2,k3⟩:=Yv hd
  simp only[Vf k1 k2]
  exact⟨rfl,k3⟩
theorem eW (c:List UInt8):Mv c=match G7 0 c with
 |some (n::r)=>if Mt (Ch (n::r))=c then some (Ch (n::r)) else none
 |_=>none:=by
 cases h:Cn false 0 c with
 |some l=>
  have h2:=Vh c false 0 l h
  rw[Mv,h,h2]
  cases l with
  |nil=>rfl
  |cons n r=>
   obtain⟨k1,k2⟩:=Ja c false 0 _ (by omega) (by simp) (fun _=>rfl) h
   obtain⟨k3,k4,k5⟩:=G8 (l:=n::r) (by simp) k2
   simp only
   rw[if_pos (by rw[k5,←k1];rfl)]
 |none=>
  have e:Mv c=none:=by rw[Mv,h]
  rw[e]
  cases h2:G7 0 c with
  |none=>rfl
  |some l=>
   cases l with
   |nil=>rfl
   |cons n r=>
    obtain⟨k3,k4,k5⟩:=G8 (l:=n::r) (by simp) (Qm c 0 _ h2)
    simp only
    rw[if_neg]
    intro h3
    have:=eV k3 k4
    rw[h3,e] at this
    cases this
end Go.Proofs.YtokmjjkbginodaaGreatDoor
namespace Go.Proofs.YtokmjjkbginodaaGreatDoor
open Go.RowKit
def Vj:Nat→Code→List Code
 |n+1,.seq x y=>x::Vj n y
 |_,_=>[]
def Sy:Nat→Code→Code
 |n+1,.seq _ y=>Sy n y
 |_,c=>c
def zK:List Code→Code→Code
 |[],c=>c
 |x::r,c=> .seq x (zK r c)
theorem eX:∀(n:Nat) (c:Code),zK (Vj n c) (Sy n c)=c
 |0,c=>by cases c<;>rfl
 |n+1,c=>by
  cases c with
  |seq x y=>show Code.seq x (zK (Vj n y) (Sy n y))=_;rw[eX n y]
  |_=>rfl
def GA (P:Program) (C:Cx):List Code→(AS→Prop)→AS→Prop
 |[],K,σ=>K σ
 |x::r,K,σ=>C8 P C x (nx (GA P C r K) (fun _ _=>False)) σ
theorem oH {P:Program} {C:Cx} {B:Code} {Q:Exit→Act→World→Prop} {K:AS→Prop}:∀{xs:List Code} {σ:AS} {a:Act} {w:World},GA P C xs K σ→G C σ a w→(∀σ' a' w',K σ'→G C σ' a' w'→B.wp P Q a' w')→(zK xs B).wp P Q a w
 |[],σ,a,w,h,hG,k=>k σ a w h hG
 |x::r,σ,a,w,h,hG,k=>wp_seq (wp_mono (h a w hG) fun e a' w' ⟨σ',h1,h2⟩=>by
   cases e with
   |normal=>exact oH (xs:=r) h1 h2 k
   |_=>exact h1.elim)
noncomputable def oI (P:Program) (C:Cx) (T:Tab):List Code→KS→KS
 |[],K=>K
 |x::r,K=>I7 P C T x (oI P C T r K) (fun _ _ _ _=>False) (fun _ _ _=>False)
theorem eZ {P:Program} {C:Cx} {T:Tab} (hT:TabOk P T) (hm:P.follows .mixedOrders=true):∀{xs:List Code} {K:KS} {tm:TM} {bx:BX} {tk:TK},oI P C T xs K tm bx tk→GA P C xs (fun σ=>K σ.tm σ.bx σ.tk) ⟨tm,bx,tk⟩
 |[],K,tm,bx,tk,h=>h
 |x::r,K,tm,bx,tk,h=>Fs (Tk hT hm x _ _ _ _ _ _ h) fun e σ he=>by
   cases e with
   |normal=>exact eZ (xs:=r) hT hm he
   |exit id=>exact False.elim he
   |ret=>exact False.elim he
   |goto l=>exact he.elim
   |panic c=>exact he.elim
   |_=>first|exact he.elim|exact he
theorem GG.act {C:Cx} {bm:BM} {gt:Nat→Value} {fp:Nat→Nat→Prop} {σ σ':AS} {a a':Act} {w:World} (h:GG C bm gt fp σ a w) (hsz:a'.tmps.size=C.N) (hdf:a'.defers=[]) (hb:σ'.bx=σ.bx) (hk:σ'.tk=σ.tk)
 (ht:∀t u,lk t σ'.tm=some u→∃v,C.val a' t=some v∧RA C.W.heap.size fp w bm gt u v):GG C bm gt fp σ' a' w:=by
 obtain⟨tm,bx,tk⟩:=σ'
 simp only at hb hk
 subst hb hk
 exact{sz:=hsz,nN:=h.nN,gd:=h.gd,za:=h.za,zb:=h.zb,zf:=h.zf,ztk:=h.ztk,df:=hdf,tm:=ht,bx:=h.bx,bxi:=h.bxi,tk:=h.tk,tki:=h.tki,tkb:=h.tkb,fpb:=h.fpb,fp0:=h.fp0,fpB:=h.fpB,bel:=h.bel}
def Vk (all:List AV):List Nat→TM
 |[]=>[]
 |i::r=>match all[i]? with
  |some u=>(i,u)::Vk all r
  |none=>Vk all r
def zL (vs:List Value) (tm:TM):List Nat→Prop
 |[]=>True
 |i::r=>(∃v,vs[i]?=some v∧lk i tm=some (.d (.v v)))∧zL vs tm r
theorem Vm {all:List AV} {t:Nat} {u:AV}:∀{l:List Nat},lk t (Vk all l)=some u→t∈l∧all[t]?=some u
 |[],h=>by cases h
 |i::r,h=>by
  unfold Vk at h
  cases hi:all[i]? with
  |none=>
   rw[hi] at h
   obtain⟨h1,h2⟩:=Vm (l:=r) h
   exact⟨List.mem_cons_of_mem _ h1,h2⟩
  |some x=>
   rw[hi] at h
   by_cases e:i=t
   ·subst e
    rw[Bs] at h;cases h
    exact⟨by simp,hi⟩
   ·rw[Cf _ _ e] at h
    obtain⟨h1,h2⟩:=Vm (l:=r) h
    exact⟨List.mem_cons_of_mem _ h1,h2⟩
theorem Yw {vs:List Value} {tm:TM} {t:Nat}:∀{l:List Nat},zL vs tm l→t∈l→∃v,vs[t]?=some v∧lk t tm=some (.d (.v v))
 |[],_,h=>by simp at h
 |i::r,hk,h=>by
  rcases List.mem_cons.1 h with rfl|h
  ·exact hk.1
  ·exact Yw hk.2 h
def fA:List AV→List Value→Prop
 |[],[]=>True
 |u::us,v::vs=>(match u with
  | .d (.v x)=>v=x
  |_=>True)∧fA us vs
 |_,_=>False
theorem fB {B:Nat} {fp:Nat→Nat→Prop} {w:World} {bm:BM} {gt:Nat→Value}:∀{us:List AV} {vs:List Value},vs.length=us.length→(∀(i:Nat) u v,us[i]?=some u→vs[i]?=some v→RA B fp w bm gt u v)→fA us vs
 |[],[],_,_=>trivial
 |u::us,v::vs,hl,h=>by
  refine⟨?_,fB (by simpa using hl) fun i x y hx hy=>h (i+1) x y (by simpa using hx) (by simpa using hy)⟩
  have h0:=h 0 u v rfl rfl
  split
  ·rename_i x;exact h0.val
  ·trivial
 |[],_::_,hl,_=>by simp at hl
 |_::_,[],hl,_=>by simp at hl
def Vn:Nat→List Value→TM
 |_,[]=>[]
 |i,v::vs=>(i,.d (.v v))::Vn (i+1) vs
theorem fC {t:Nat} {u:AV}:∀(vs:List Value) (i:Nat),lk t (Vn i vs)=some u→i≤t∧∃v,vs[t-i]?=some v∧u= .d (.v v)
 |[],_,h=>by cases h
 |x::vs,i,h=>by
  simp only[Vn,lk] at h
  cases hb:Nat.beq i t with
  |true=>rw[hb] at h;cases h;obtain rfl:=Nat.eq_of_beq_eq_true hb;exact⟨Nat.le_refl _,x,by simp,rfl⟩
  |false=>
   rw[hb] at h
   obtain⟨h1,v,h2,h3⟩:=fC vs (i+1) h
   refine⟨by omega,v,?_,h3⟩
   have:t-i=(t-(i+1))+1:=by omega
   rw[this,List.getElem?_cons_succ];exact h2
def LS (vs:List Value) (keep:List Nat) (sl n sz:Nat) (e:TypeId) (ds:List D) (σ:AS):Prop:=∃κ,lk sl σ.tm=some (.own κ n sz e ds)∧lk κ σ.tk=some (n,sz,e)∧zL vs σ.tm keep
theorem GB {P:Program} {C:Cx} {o:Oper} {σ:AS} {bm:BM} {gt:Nat→Value} {fp:Nat→Nat→Prop} {a:Act} {w:World} (hg:GG C bm gt fp σ a w) (hd:∀t,o.dst=some t→t<C.N) {f:FuncId} {fn:Func} {c:Code} {us:List AV} {vs:List Value} {S:AS→Prop} (hf:P.funcs[f]?=some fn) (hb:fn.body=some c) (hn:fn.results.size≤4) (hN:us.length≤fn.ntmps) (hN6:fn.ntmps≤1000000) (hl:vs.length=us.length)
 (hr:∀(i:Nat) u v,us[i]?=some u→vs[i]?=some v→RA C.W.heap.size fp w bm gt u v) (k sl κ n sz:Nat) (e:TypeId) (ds:List D) (keep:List Nat) (hsl:sl<fn.ntmps) (hκ:(AS.mk (inT us σ.tm) σ.bx σ.tk).clean κ=true)
 (hA:∀vs,fA us vs→∀W fp0 z0,GA P ⟨W,fp0,fn.ntmps,fun _=>none,z0⟩ (Vj k c) (LS vs keep sl n sz e ds) ⟨Vn 0 vs,[],[]⟩)
 (hB:∀gh,C8 P ⟨C.W,C.fp0,fn.ntmps,gh,C.z0⟩ (Sy k c) (xB P fn.results.toList o.dst S) ⟨(sl,.own κ n sz e ds)::(Vk us keep++ghM 1000000 σ.tm),σ.bx,(κ,n,sz,e)::σ.tk⟩) {K:Act→World→Prop} {Q:Exit→Act→World→Prop} (hK:∀σ' a' w',S σ'→G C σ' a' w'→K a' w'):
 o.upon P a K Q (.ok (.enter f vs.toArray) w):=by
 rw[Oper.upon_enter]
 have hcalls:Calls P f vs.toArray w fun e w'=>∃v σ' u,e= .returned v∧S (σ'.ret o.dst u)∧∃bm gt fp a',GG (Cx.inn 1000000 C fn.ntmps a) bm gt fp σ' a' w'∧RA C.W.heap.size fp w' bm gt u v:=by
  refine calls_of_wp hf hb ?_
  have hGin:=hg.inn (M:=1000000) rfl (us:=us) (vs:=vs) hN6 hl hN hr
  have hG0:G ⟨w,fp,fn.ntmps,fun _=>none,bm.z⟩ ⟨Vn 0 vs,[],[]⟩ {tmps:=vs.toArray++Array.replicate (fn.ntmps-vs.toArray.size) undef,defers:=[]} w:=by
   refine⟨⟨fun _=>0,bm.z⟩,fun _=>undef,fp,{sz:= ?_,nN:=hN6,gd:=hg.gdw,za:=fun _ _ x=>x,zb:=fun _ _ x=> .inl x,zf:=hg.zf,ztk:=fun k x hk=>(by cases hk),df:=rfl,tm:=fun t u hu=> ?_,bx:=fun k cs hk=>(by cases hk),bxi:=fun k k' c c' hk=>(by cases hk),tk:=fun k n sz e hk=>(by cases hk),tki:=fun k k' x x' hk=>(by cases hk),tkb:=fun k k' x c hk=>(by cases hk),fpb:=fun b o hf=>⟨.inl hf,(hg.fpb b o hf).2⟩,fp0:=fun _ _ hf=>hf,fpB:=fun b o hf=>(hg.fpb b o hf).2,bel:=Below.refl _ _}⟩
   ·show _=fn.ntmps
    simp;omega
   ·obtain⟨_,v,h2,rfl⟩:=fC vs 0 hu
    rw[Nat.sub_zero] at h2
    have hlt:=(Aw.1 h2).1
    refine⟨v,?_,.d (.v v)⟩
    rw[Cx.val_lt (by omega),Array.getElem?_append_left (by simpa using hlt)]
    simpa using h2
  have hw:(zK (Vj k c) (Sy k c)).wp P (bodyPost P fn (fun e w'=>∃v σ' u,e= .returned v∧S (σ'.ret o.dst u)∧∃bm gt fp a',GG (Cx.inn 1000000 C fn.ntmps a) bm gt fp σ' a' w'∧RA C.W.heap.size fp w' bm gt u v)) {tmps:=vs.toArray++Array.replicate (fn.ntmps-vs.toArray.size) undef,defers:=[]} w:=by
   refine oH (hA vs (fB hl hr) w fp bm.z) hG0 ?_
   rintro σ1 a1 w1 ⟨κ1,k1,k2,k3⟩ ⟨bm1,gt1,fp1,hg1⟩
   obtain⟨v,hv,hra⟩:=hg1.tm sl _ k1
   have hres:Kt w fp bm.z w1 (.own 0 n sz e ds) v:=by
    refine⟨rfl,fp1,fun _=>gt1 κ1,bm1.z,hg1.fpb,?_,fun n' sz' e' ht=>by cases ht;exact⟨hg1.tk _ _ _ _ k2,hg1.ztk κ1 _ k2⟩,hg1.za,hg1.zf,hg1.zb⟩
    cases hra with|own hra=>exact .own (gt:=fun _=>gt1 κ1) (k:=0) hra
   obtain⟨bm2,gt2,fp2,hg2⟩:=hGin.back (t:=sl) (κ:=κ) hsl hκ hg1.bel hres
   have hg3:GG (Cx.inn 1000000 C fn.ntmps a) bm2 gt2 fp2 ⟨(sl,.own κ n sz e ds)::(Vk us keep++ghM 1000000 σ.tm),σ.bx,(κ,n,sz,e)::σ.tk⟩ a1 w1:=by
    refine hg2.act hg1.sz hg1.df rfl rfl fun t u hu=> ?_
    by_cases est:sl=t
    ·subst est
     rw[Bs] at hu
     cases hu
     obtain⟨v',q1,q2⟩:=hg2.tm sl (.own κ n sz e ds) (by show lk sl ((sl,_)::_)=_;rw[Bs];rfl)
     have e1:v'=v:=by
      rw[Cx.val_lt (by omega)] at q1
      simp only[Act.put] at q1
      have hh:sl<(vs.toArray++Array.replicate (fn.ntmps-vs.toArray.size) undef).size:=by simp;omega
      rw[Array.getElem?_setIfInBounds_self] at q1
      rw[if_pos hh] at q1
      exact(Option.some.inj q1).symm
     subst e1
     refine⟨v',?_,q2⟩
     rw[Cx.val_lt (by omega)] at hv⊢
     exact hv
    ·rw[Cf _ _ est] at hu
     rcases jZ hu with hu|hu
     ·obtain⟨m1,m2⟩:=Vm hu
      have htl:=(Aw.1 m2).1
      obtain⟨x,x1,x2⟩:=Yw k3 m1
      obtain⟨y,y1,y2⟩:=hg1.tm t _ x2
      have exy:y=x:=y2.val
      subst exy
      have hin:lk t (inM 1000000 us σ.tm)=some u:=by
       have gen:∀(l:List AV) (i:Nat) (m:TM) (j:Nat),l[j]?=some u→lk (i+j) (G3 i l++m)=some u:=by
        intro l
        induction l with
        |nil=>intro i m j hj;simp at hj
        |cons q l ih=>
         intro i m j hj
         cases j with
         |zero=>simp at hj;subst hj;show lk i ((i,q)::_)=_;rw[Bs]
         |succ j=>
          show lk (i+(j+1)) ((i,q)::(G3 (i+1) l++m))=_
          rw[Cf _ _ (by omega),show i+(j+1)=i+1+j by omega]
          exact ih (i+1) m j (by simpa using hj)
       have:=gen us 0 (ghM 1000000 σ.tm) t m2
       rwa[Nat.zero_add] at this
      obtain⟨z,z1,z2⟩:=hg2.tm t u (by show lk t ((sl,_)::_)=_;rw[Cf _ _ est];exact hin)
      have hzx:z=y:=by
       rw[Cx.val_lt (by omega)] at z1
       simp only[Act.put] at z1
       rw[Array.getElem?_setIfInBounds_ne est,Array.getElem?_append_left (by simp;omega)] at z1
       have:vs[t]?=some z:=by simpa using z1
       rw[x1] at this;exact(Option.some.inj this).symm
      subst hzx
      refine⟨z,?_,z2⟩
      rw[Cx.val_lt (by omega)] at y1⊢
      exact y1
     ·obtain⟨g1,g2⟩:=jY hu
      have hin:lk t (inM 1000000 us σ.tm)=some u:=by
       have gen:∀(l:List AV) (i:Nat) (m:TM),i+l.length≤t→lk t (G3 i l++m)=lk t m:=by
        intro l
        induction l with
        |nil=>intro i m _;rfl
        |cons q l ih=>
         intro i m hle
         rw[Ag] at hle
         show lk t ((i,q)::(G3 (i+1) l++m))=_
         rw[Cf _ _ (by omega)]
         exact ih (i+1) m (by omega)
       show lk t (G3 0 us++ghM 1000000 σ.tm)=_
       rw[gen us 0 _ (by omega)];exact hu
      obtain⟨z,z1,z2⟩:=hg2.tm t u (by show lk t ((sl,_)::_)=_;rw[Cf _ _ est];exact hin)
      exact⟨z,(Cx.val_ge g1).trans ((Cx.val_ge g1).symm.trans z1),z2⟩
   refine wp_mono (hB _ a1 w1 ⟨bm2,gt2,fp2,hg3⟩) fun e a1 w' ⟨σ',hΦ,bm',gt',fp',hg'⟩=> ?_
   have fin:(∃us,Lm P σ' fn.results.toList us∧S (σ'.ret o.dst (single us)))→bodyPost P fn (fun e w'=>∃v σ' u,e= .returned v∧S (σ'.ret o.dst u)∧∃bm gt fp a',GG (Cx.inn 1000000 C fn.ntmps a) bm gt fp σ' a' w'∧RA C.W.heap.size fp w' bm gt u v) .ret a1 w':=by
    rintro⟨us',h1,h2⟩
    obtain⟨v,hrun,hra⟩:=Mj hg' h1 hn
    exact⟨hg'.df,v,hrun,v,σ',single us',rfl,h2,bm',gt',fp',a1,hg',hra⟩
   cases e with
   |normal=>exact fin hΦ
   |ret=>exact fin hΦ
   |_=>exact hΦ.elim
  rw[eX] at hw
  exact hw
 refine hcalls.mono ?_
 rintro e w' ⟨v,σ',u,rfl,hS,bm',gt',fp',a',hg',hra⟩
 simp only[]
 have ho:=hg'.out (M:=1000000) rfl hg.sz hg.nN hg.df
 refine hK _ _ _ hS ?_
 unfold AS.ret
 cases hdd:o.dst with
 |none=>exact⟨bm',gt',fp',ho⟩
 |some t=>exact⟨bm',gt',fp',ho.put (t:=t) (hd t hdd) hra⟩
theorem Vo {P:Program} {C:Cx} {T:Tab} {o:Oper} {tm:TM} {bx:BX} {tk:TK} {f:FuncId} {s:Nat} {fs cs:List AV} {fn:Func} {c:Code} {args:Array Operand} {ats:Array TypeId} {us:List AV} {K:KS} (k sl κ n sz:Nat) (e:TypeId) (ds:List D) (keep:List Nat) (off N:Nat) (rs:Array ResultVar) (hT:TabOk P T) (hm:P.follows .mixedOrders=true) (ho:o.op= .call {callee:= .value (.tmp s),args:=args,argTypes:=ats}) (hd:Yf o.dst C.N=true)
 (hv:evT tm (.tmp s)=some (.cl f fs cs)) (hu:evL ⟨tm,bx,tk⟩ args.toList=some us) (hf:P.funcs[f]?=some fn) (hN:fn.ntmps=N) (hn0:(fn.name== "runtime.NumGoroutine")=false) (hb:fn.body=some c) (hr:fn.results=rs) (hn:Nat.ble rs.size 4=true) (hA:(Nat.ble (fs++us++cs).length N&&Nat.ble N 1000000&&Nat.blt sl N)=true)
 (hκ:(AS.mk (inT (fs++us++cs) tm) bx tk).clean κ=true)
 (h1:∀vs,fA (fs++us++cs) vs→∀W fp0 z0,oI P ⟨W,fp0,N,fun _=>none,z0⟩ T (Vj k c) (fun tm bx tk=>LS vs keep sl n sz e ds ⟨tm,bx,tk⟩) (Vn 0 vs) [] [])
 (h2:∀gh,Dm ((sl,.own κ n sz e ds)::(Vk (fs++us++cs) keep++ghM 1000000 tm)) (fun tm=>I7 P ⟨C.W,C.fp0,N,gh,C.z0⟩ ⟨T.ty,T.fd,T.st,T.mu,off⟩ (Sy k c) (Kx T rs o.dst K) (fun _ _ _ _=>False) (Kx T rs o.dst K) tm bx ((κ,n,sz,e)::tk))):NStep P C o tm bx tk K:=by
 simp only[At] at hA
 subst hN hr
 refine⟨fun σ'=>K σ'.tm σ'.bx σ'.tk,?_,fun σ' h=>h⟩
 rintro a w ⟨bm,gt,fp,hg⟩ K' Q hK
 obtain⟨hl,hr⟩:=hg.evA hu
 have hv0:=hg.eval (x:= .tmp s) (Bo hv)
 generalize hvv:a.eval (.tmp s)=v at hv0
 cases hv0 with
 |cl ms ns h3 h4 h6 h7=>
  have hrun:(execOp a.eval o).run P w= .ok (.enter f (ms++args.toList.map a.eval++ns).toArray) w:=by
   simp only[execOp,ho,resolve,hvv,Deferred.ofValue,invoke,Sem.run_bind,Sem.run_pure,Result.andThen_ok,Mk hf hn0 hb]
   obtain⟨l⟩:=args
   simp
  unfold Oper.wp
  rw[hrun]
  have app:∀{l1 l2:List AV} {m1 m2:List Value},m1.length=l1.length→m2.length=l2.length→(∀(i:Nat) u v,l1[i]?=some u→m1[i]?=some v→RA C.W.heap.size fp w bm gt u v)→(∀(i:Nat) u v,l2[i]?=some u→m2[i]?=some v→RA C.W.heap.size fp w bm gt u v)→∀(i:Nat) u v,(l1++l2)[i]?=some u→(m1++m2)[i]?=some v→RA C.W.heap.size fp w bm gt u v:=by
   intro l1 l2 m1 m2 e1 e2 r1 r2 i u v hu hv
   by_cases hi:i<l1.length
   ·rw[List.getElem?_append_left hi] at hu
    rw[List.getElem?_append_left (by omega)] at hv
    exact r1 i u v hu hv
   ·rw[List.getElem?_append_right (by omega)] at hu
    rw[List.getElem?_append_right (by omega)] at hv
    rw[e1] at hv
    exact r2 _ u v hu hv
  refine GB (us:=fs++us++cs) hg (fun t ht=>by unfold Yf at hd;rw[ht] at hd;exact ltN hd) hf hb (leN hn) (leN hA.1.1) (leN hA.1.2) ?_ (app (by rw[Ap,Ap,h3,hl]) h4 (app h3 hl h6 hr) h7) k sl κ n sz e ds keep (ltN hA.2) hκ (fun vs hvs W fp0 z0=>eZ hT hm (h1 vs hvs W fp0 z0)) (fun gh=> ?_) hK
  ·simp only[Ap];omega
  ·have hg:=Cc (K:=fun tm=>I7 P ⟨C.W,C.fp0,fn.ntmps,gh,C.z0⟩ ⟨T.ty,T.fd,T.st,T.mu,off⟩ (Sy k c) (Kx T fn.results o.dst K) (fun _ _ _ _=>False) (Kx T fn.results o.dst K) tm bx ((κ,n,sz,e)::tk)) (h2 gh)
   refine Fs (Tk (T:=⟨T.ty,T.fd,T.st,T.mu,off⟩) ⟨hT.ty,hT.fd,hT.st⟩ hm (Sy k c) _ _ _ _ _ _ hg) fun e σ he=> ?_
   cases e with
   |normal=>exact Qa hT he
   |exit id=>exact False.elim he
   |ret=>exact Qa hT he
   |goto l=>exact he.elim
   |panic c=>exact he.elim
   |_=>first|exact he.elim|exact he
abbrev sx (l:List UInt8):AV:= .d (.v (.string ⟨⟨l⟩⟩))
def Xr (l:List UInt8):List D:=[.v (.string ⟨⟨l⟩⟩)]
def Vp (t:Bool) (ps:List (List UInt8)):D:=Fb t 1 Xr ps
theorem K3 (t:Bool) (ps:List (List UInt8)):(Vp t ps).un=Vp false ps:=Kc (fun _=>rfl) t 1 ps
theorem fD (ps:List (List UInt8)) (i:Nat):(ps.flatMap Xr)[i]?=(ps[i]?).map fun p=>D.v (.string ⟨⟨p⟩⟩):=by
 have:ps.flatMap Xr=ps.map fun p=>D.v (.string ⟨⟨p⟩⟩):=by
  induction ps with
  |nil=>rfl
  |cons p r ih=>rw[List.flatMap_cons,ih];rfl
 rw[this,List.getElem?_map]
theorem Vq (ps:List (List UInt8)):(ps.flatMap Xr).length=ps.length:=by
 induction ps with
 |nil=>rfl
 |cons p r ih=>rw[List.flatMap_cons,Ap,ih,Ag];simp[Xr];omega
theorem Qn (s:List UInt8):(Fj s).length≤s.length+1:=by
 induction s with
 |nil=>simp[Fj]
 |cons c r ih=>
  rw[Fj]
  split
  ·simp only[Ag];omega
  ·obtain⟨p,ps,h⟩:=Jz r
   rw[h] at ih⊢
   simp only[Ag] at ih⊢;omega
theorem aP (s:List UInt8) (hs:s.length≤4000000):Ab Tryz.prog 182 [.d (.v (.string ⟨⟨s⟩⟩)),.d (.v (.string ⟨#[46]⟩))] (fun r=>r= .d (Vp true (Fj s))):=by
 refine .of Tryz.func182 (by kernel_rfl) rfl rfl fun w fp0 bm gt vs hG hr=> ?_
 match vs,hr with
 |[a,b],hr=>
  rw[hr.1.val,hr.2.1.val]
  obtain⟨m,hm⟩:=hG.ml
  refine(Tryz.strings_Split ⟨⟨s⟩⟩ ⟨#[46]⟩ m w (by show s.length<_;omega) hm (by decide)).mono ?_
  rintro e w' ⟨rfl,rfl⟩
  rw[Sw]
  have hl:Lib.countB ⟨⟨s⟩⟩ ⟨#[46]⟩+1=(Fj s).length:=by
   have h1:=Lib.splitB_all ⟨#[46]⟩ (by decide) 0 _ ⟨⟨s⟩⟩ rfl
   rw[Sw,List.length_map] at h1
   exact h1.symm
  rw[hl]
  have hd:=Qn s
  refine⟨_,rfl,(Below.refl _ _).alloc (Nat.le_refl _) _,fun fp hfp hnew bm gt=> .d ?_⟩
  refine .sl ((Fj s).map fun p=> .string ⟨⟨p⟩⟩) (Nat.le_refl _) (by unfold maxLen;omega) (by rw[Vq,Nat.mul_one]) (by rw[Vq,List.length_map]) (fun h=>by cases h) (fun u hu=> ?_) (fun i d u hd hu=> ?_) (fun i u hu=> ?_)
  ·obtain⟨p,-,rfl⟩:=List.mem_map.1 hu;rfl
  ·rw[fD] at hd
   rw[List.getElem?_map] at hu
   cases hp:(Fj s)[i]? with
   |none=>rw[hp] at hd;cases hd
   |some p=>rw[hp] at hd hu;cases hd;cases hu;exact .v _
  ·refine⟨w.heap.size,0,rfl,hnew _ _ (Nat.le_refl _) (by rw[World.size_alloc];omega),fun _=>Nat.le_refl _,?_⟩
   rw[World.cell?_alloc_new,Nat.zero_add]
   simpa[List.map_map,Function.comp_def] using hu
def PH:(Nat→Nat→Prop)→World→Value→Prop:=fun _ _ v=>∃t p,v= .iface t p
def tL:AV:= .sem PH
def PI:AV:= .d (.v .nilIface)
def puA (l:List UInt8):AV:=match Lib.parseUintB 32 l with
 | .ok u=> .tup [.d (.v (.int .u64 u)),PI]
 |Lib.NumEnd.syntax=> .tup [.d (.v (.int .u64 0)),tL]
 | .range=> .tup [.d (.v (.int .u64 4294967295)),tL]
theorem zM {B:Nat} {fp:Nat→Nat→Prop} {w:World} {bm:BM} {gt:Nat→Value} (t:TypeId) (p:Value):RA B fp w bm gt tL (.iface t p):= .sem rfl fun _ _ _ _ _=>⟨t,p,rfl⟩
theorem lE (l:List UInt8) (hl:l.length≤4000000):Ab Tryz.prog 183 [.d (.v (.string ⟨⟨l⟩⟩)),iv 10,iv 32] (fun r=>r=puA l):=by
 have hs:(⟨⟨l⟩⟩:ByteArray).size=l.length:=rfl
 unfold puA
 have hh:(∃u,Lib.parseUintB 32 l= .ok u)∨Lib.parseUintB 32 l=Lib.NumEnd.syntax∨Lib.parseUintB 32 l= .range:=by
  cases Lib.parseUintB 32 l
  ·exact .inl ⟨_,rfl⟩
  ·exact .inr (.inl rfl)
  ·exact .inr (.inr rfl)
 rcases hh with⟨u,hp⟩|hp|hp<;>rw[hp]
 ·
  refine .of Tryz.func183 (by kernel_rfl) rfl rfl fun w fp0 bm gt vs hG hr=> ?_
  match vs,hr with
  |[a,b,c],hr=>
   rw[hr.1.val,hr.2.1.val,hr.2.2.1.val]
   refine(Tryz.strconv_ParseUint_10_at32_ok ⟨⟨l⟩⟩ (by rw[hs];omega) u hp w).mono ?_
   rintro e w' ⟨rfl,hw⟩
   refine⟨_,rfl,?_,fun fp _ _ bm gt=> .tup [_,_] rfl fun i x v hx hv=> ?_⟩
   ·rcases hw with rfl|rfl
    ·exact Below.refl _ _
    ·exact Lib.bytesWorld_below _ _ _
   ·match i with
    |0=>simp at hx hv;subst hx hv;exact .d (.v _)
    |1=>simp at hx hv;subst hx hv;exact .d (.v _)
 ·
  refine .of Tryz.func183 (by kernel_rfl) rfl rfl fun w fp0 bm gt vs hG hr=> ?_
  match vs,hr with
  |[a,b,c],hr=>
   rw[hr.1.val,hr.2.1.val,hr.2.2.1.val]
   obtain⟨ev,h1,h2⟩:=hG.syn
   refine(Tryz.strconv_ParseUint_10_at32_syntax ⟨⟨l⟩⟩ (by rw[hs];omega) hp ev w h1 h2).mono ?_
   rintro e w' ⟨N,rfl,-,-,hb⟩
   refine⟨_,rfl,hb,fun fp _ _ bm gt=> .tup [_,_] rfl fun i x v hx hv=> ?_⟩
   match i with
   |0=>simp at hx hv;subst hx hv;exact .d (.v _)
   |1=>simp at hx hv;subst hx hv;exact zM _ _
 ·
  refine .of Tryz.func183 (by kernel_rfl) rfl rfl fun w fp0 bm gt vs hG hr=> ?_
  match vs,hr with
  |[a,b,c],hr=>
   rw[hr.1.val,hr.2.1.val,hr.2.2.1.val]
   obtain⟨ev,h1,h2⟩:=hG.rng
   refine(Tryz.strconv_ParseUint_10_at32_range ⟨⟨l⟩⟩ (by rw[hs];omega) hp ev w h1 h2).mono ?_
   rintro e w' ⟨N,rfl,-,-,hb⟩
   refine⟨_,rfl,hb,fun fp _ _ bm gt=> .tup [_,_] rfl fun i x v hx hv=> ?_⟩
   match i with
   |0=>simp at hx hv;subst hx hv;exact .d (.v _)
   |1=>simp at hx hv;subst hx hv;exact zM _ _
open Go.Sort Go.Lib in
theorem tM (u:Nat) (hu64:u<18446744073709551616) (w:World) (htab:Lib.TabIs Tryz.prog w "internal/strconv.uint64pow10" .u64 Lib.pow10Tab):
 Calls Tryz.prog 214 #[.int .u64 u,.int .i64 10] w fun e w'=>e= .returned (.string ⟨(Lib.decDigits u).toArray⟩)∧Below w.heap.size w w':=by
 by_cases hs:u<100
 ·have d1:decide ((u:Int)<100)=true:=decide_eq_true (by omega)
  have w1:IntKind.i64.wrap (u:Int)=(u:Int):=IntWalk.i64_in _ (by omega)
  have hc:=fun w=>Tryz.internal_strconv_small u hs w
  go_enter Tryz.func214,Tryz.ntmps214
  go_wp2_with (go_at_call 237;refine(hc _).mono ?_;rintro e w' ⟨rfl,rfl⟩)
  go_ret
  exact⟨rfl,Below.refl _ _⟩
 ·have d1:decide ((u:Int)<100)=false:=decide_eq_false (by omega)
  have hnd20:Lib.nDigits u≤20:=by have:=Lib.numDigits_eq u (by omega) hu64;split at this<;>omega
  have hal:Tryz.prog.arrayLen 297=24:=by simp[Program.arrayLen,Tryz.underlying297]
  have hsl1:∀W,(Instr.sliceAt 297 (.pointer (some ⟨w.heap.size,0,none⟩)) none (some (.int .i64 (Lib.nDigits u:Int))) none).run Tryz.prog W= .ok (.slice (some ⟨w.heap.size,0,none⟩) (Lib.nDigits u) 24) W:=fun W=>by
   rw[run_sliceAt_array_h W 297 ⟨w.heap.size,0,none⟩ (by simp[Program.arrayLen,Program.elem,Tryz.underlying297]) .i64 (Lib.nDigits u:Int) (by omega) (by rw[hal];omega)]
   rw[hal];simp[Program.elem,Tryz.underlying297,Tryz.sizeOf5,Result.andThen,slicedAt,Lib.add_plain]
  have hH0:Holds (fun(b:UInt8)=>Value.int .u8 (b.toNat:Int)) (w.alloc (.cells Lib.zeros24 297)) w.heap.size 0 (Array.replicate (Lib.nDigits u) (0:UInt8)):=fun i hi=>by
   simp only[Array.size_replicate] at hi
   refine⟨?_,World.frozen?_alloc_new _ _ _ _⟩
   rw[World.cell?_alloc_new,Nat.zero_add,Lib.zeros24_at i (by omega)]
   simp[hi]
  have hfmt:=Tryz.internal_strconv_formatBase10 w.heap.size 0 24 u (Array.replicate (Lib.nDigits u) 0) (w.alloc (.cells Lib.zeros24 297)) hH0 (by rw[Array.size_replicate];exact Lib.lt_pow_nDigits u) hu64 (by rw[Array.size_replicate];omega)
  rw[Array.size_replicate] at hfmt
  have HH0:=Zh hH0
  clear hH0 hal
  go_enter Tryz.func214,Tryz.ntmps214
  go_wp2_with (first
   |(go_at_call 238;refine(Tryz.internal_strconv_numDigits u (by omega) hu64 _ (Lib.tabIs_alloc htab _)).mono ?_;rintro e w' ⟨rfl,rfl⟩))
  go_at_call 239
  refine hfmt.mono ?_
  rintro e w' ⟨rfl,k,v',dk,rfl,hF⟩
  have hcv:(convert 22 9 (.slice (some ⟨w.heap.size,0,none⟩) (Lib.nDigits u) 24)).run Tryz.prog ((putRow (fun(b:UInt8)=>Value.int .u8 (b.toNat:Int)) (w.alloc (.cells Lib.zeros24 297)) w.heap.size 0 dk).drewN k)= .ok (.string ⟨(Lib.decDigits u).toArray⟩) ((putRow (fun(b:UInt8)=>Value.int .u8 (b.toNat:Int)) (w.alloc (.cells Lib.zeros24 297)) w.heap.size 0 dk).drewN k):=by
   have h:=run_convert_bytes_back (P:=Tryz.prog) ((putRow (fun(b:UInt8)=>Value.int .u8 (b.toNat:Int)) (w.alloc (.cells Lib.zeros24 297)) w.heap.size 0 dk).drewN k) 22 9 5 ⟨w.heap.size,0,none⟩ 24 (Lib.decDigits u) Tryz.underlying22 Tryz.underlying5 Tryz.underlying9 (fun j hj=>by
    rw[Lib.row_is_numeral hF j hj,Lib.add_plain,World.cell?_drewN]
    exact cell?_putRow (fun(b:UInt8)=>Value.int .u8 (b.toNat:Int)) _ w.heap.size 0 _ dk HH0.out (by rw[hF.size,Array.size_replicate]) j (by rw[hF.size];rw[Lib.decDigits_length] at hj;exact hj))
   rw[Lib.decDigits_length] at h
   exact h
  go_wp2
  go_ret
  refine⟨rfl,?_⟩
  refine⟨rfl,rfl,rfl,?_,fun i hi=> ?_⟩
  ·show _≤(putRow _ _ _ _ _).heap.size
   rw[Sort.size_putRow,World.size_alloc];omega
  ·show(putRow _ _ _ _ _).heap[i]?=_
   simp only[putRow,mapBlock,Array.getElem?_modify]
   rw[if_neg (by omega)]
   exact Below.heap_alloc w _ i hi
theorem PJ (d:Nat) (w:World):(Op.equalIn (d+1) 245 .nilIface .nilIface).run Tryz.prog w= .ok true w:=by
 simp[Op.equalIn,Sem.run_bind,run_underlying Tryz.underlying245,Result.andThen]
theorem PK (d:Nat) (t:TypeId) (p:Value) (w:World):(Op.equalIn (d+1) 245 (.iface t p) .nilIface).run Tryz.prog w= .ok false w:=by
 simp[Op.equalIn,Sem.run_bind,run_underlying Tryz.underlying245,Result.andThen]
theorem zO (x:Operand) (w:World):(do eqGuard .neq 245 x (.const .nilIface) .nilIface .nilIface;binOp .neq 245 .nilIface .nilIface:Sem Value).run Tryz.prog w= .ok (.bool false) w:=by
 have e:∀w,(Op.equal 245 .nilIface .nilIface).run Tryz.prog w= .ok true w:=fun w=>PJ 9999 w
 simp[eqGuard,Result.andThen,binOp,e]
theorem zQ (x:Operand) (t:TypeId) (p:Value) (w:World):(do eqGuard .neq 245 x (.const .nilIface) (.iface t p) .nilIface;binOp .neq 245 (.iface t p) .nilIface:Sem Value).run Tryz.prog w= .ok (.bool true) w:=by
 have e:∀w,(Op.equal 245 (.iface t p) .nilIface).run Tryz.prog w= .ok false w:=fun w=>PK 9999 t p w
 simp[eqGuard,Result.andThen,binOp,e]
section
variable {C:Cx} {o:Oper} {σ:AS} {t:Nat}
theorem Vr {yt:TypeId} {x:Operand} (ho:o.op= .binOp .neq 245 x (.const .nilIface) yt) (hd:o.dst=some t) (ht:t<C.N) (hx:σ.eval x=some PI):Bp Tryz.prog C o σ (σ.put t (bv false)):=
 Ba hd ht fun a w bm gt fp hg=>⟨_,by
  have h1:=(hg.eval hx).val
  have h2:a.eval (.const .nilIface)= .nilIface:=rfl
  simp only[execOp,ho,h1,h2]
  rw[Sem.run_bind,zO x w]
  rfl,.d (.v _)⟩
theorem lF {yt:TypeId} {x:Operand} (ho:o.op= .binOp .neq 245 x (.const .nilIface) yt) (hd:o.dst=some t) (ht:t<C.N) (hx:σ.eval x=some tL):Bp Tryz.prog C o σ (σ.put t (bv true)):=
 Ba hd ht fun a w bm gt fp hg=>by
  have h:=hg.eval hx
  generalize hv:a.eval x=v at h
  unfold tL at h
  cases h with
  |sem _ h=>
   obtain⟨ti,p,rfl⟩:=h bm.z w (fun _ _ h=>h) (fun _ _ _=>rfl) (NC.refl w)
   refine⟨_,?_,.d (.v _)⟩
   have h2:a.eval (.const .nilIface)= .nilIface:=rfl
   simp only[execOp,ho,hv,h2]
   rw[Sem.run_bind,zQ x ti p w]
   rfl
end
theorem zR (u:Nat) (hu:u<18446744073709551616):Ab Tryz.prog 214 [.d (.v (.int .u64 u)),iv 10] (fun r=>r=sx (Lib.decDigits u)):=by
 refine .of Tryz.func214 (by kernel_rfl) rfl rfl fun w fp0 bm gt vs hG hr=> ?_
 match vs,hr with
 |[a,b],hr=>
  rw[hr.1.val,hr.2.1.val]
  refine(tM u hu w hG.pow).mono ?_
  rintro e w' ⟨rfl,hb⟩
  exact⟨_,rfl,hb,fun fp _ _ bm gt=> .d (.v _)⟩
theorem oJ (u:Nat) (hu:u<18446744073709551616):Ab Tryz.prog 184 [.d (.v (.int .u64 u)),iv 10] (fun r=>r=sx (Lib.decDigits u)):=by
 have h:=zR u hu
 refine acQ 8 Tryz.func184 rfl rfl fun _ _ _=> ?_
 (repeat'((conv=>whnf);refine Aa h rfl ?_));(all_goals(conv=>whnf))
 all_goals exact zE
theorem zV (ps:List (List UInt8)) (h0:ps≠[]) (hn:ps.length≤4000000) (hl:(Lib.join ps [46]).length≤100000000):Ab Tryz.prog 208 [.d (Vp false ps),.d (.v (.string ⟨#[46]⟩))] (fun r=>r=sx (Lib.join ps [46])):=by
 refine .of Tryz.func208 (by kernel_rfl) rfl rfl fun w fp0 bm gt vs hG hr=> ?_
 match vs,hr with
 |[a,b],hr=>
  rw[hr.2.1.val]
  have h1:=hr.1
  generalize hq:AV.d (Vp false ps)=q at h1
  cases h1 with
  |d h1=>
   cases hq
   unfold Vp Fb at h1
   generalize hq:D.sl false ps.length 1 (ps.flatMap Xr)=q at h1
   cases h1 with
   |sl us k1 k2 k3 k4 k5 k6 k7 k8=>
    cases hq
    rw[Vq] at k4
    obtain⟨p,r,rfl⟩:∃p r,ps=p::r:=by cases ps with|nil=>exact absurd rfl h0|cons p r=>exact⟨p,r,rfl⟩
    have hus0:0<us.length:=by rw[k4];simp
    have hus:us[0]?=some us[0]:=Am hus0
    obtain⟨bk,o,rfl,-,-,hc0⟩:=k8 0 _ hus
    have hlt:bk<w.heap.size:=World.block_lt_of_cell? w _ hc0
    have hm:((p::r).map fun p=>(⟨⟨p⟩⟩:ByteArray)).map (·.data.toList)=p::r:=by rw[List.map_map];exact List.map_id _
    have hJ:=Tryz.strings_Join bk o _ ((p::r).map fun p=>⟨⟨p⟩⟩) ⟨#[46]⟩ w (fun j x hx=> ?_) hlt (by rw[List.length_map];omega) (by rw[List.length_map];exact k1) (by rw[hm];show(Lib.join (p::r) [46]).length≤_;omega)
    ·rw[hm,List.length_map] at hJ
     refine hJ.mono ?_
     rintro e w' ⟨rfl,hb⟩
     exact⟨_,rfl,hb,fun fp _ _ bm gt=> .d (.v _)⟩
    ·rw[List.getElem?_map,Option.map_eq_some_iff] at hx
     obtain⟨y,hy,rfl⟩:=hx
     have hj:j<us.length:=by rw[k4];exact(Aw.1 hy).1
     have hu:us[j]?=some us[j]:=Am hj
     obtain⟨b',o',e1,-,-,e4⟩:=k8 j _ hu
     cases e1
     rw[e4]
     have:=k7 j (.v (.string ⟨⟨y⟩⟩)) us[j] (by rw[fD,hy];rfl) hu
     generalize us[j]=z at this
     cases this;rfl
   |v=>cases hq
   |cp=>cases hq
   |fn=>cases hq
  |ptr=>cases hq
  |own=>cases hq
  |agg=>cases hq
  |tup=>cases hq
  |sem=>cases hq
  |cl=>cases hq
  |pk=>cases hq
theorem Ry:∀(a:List Nat),Lib.join (a.map Lib.decDigits) [46]=Cd a
 |[]=>rfl
 |[n]=>by simp[Lib.join,Cd,List.intercalate]
 |n::m::r=>by
  have ih:=Ry (m::r)
  rw[Cd,←ih]
  simp[Lib.join,List.intercalate]
def Qo (n:Nat):List D:=[.v (.int .u32 n)]
def Vs (t:Bool) (a:List Nat):D:=Fb t 1 Qo a
theorem Tm (t:Bool) (a:List Nat):(Vs t a).un=Vs false a:=Kc (fun _=>rfl) t 1 a
def Xs (n:Nat):List D:=[.v (.int .u64 n)]
def LT (t:Bool) (a:List Nat):D:=Fb t 1 Xs a
theorem Tn (t:Bool) (a:List Nat):(LT t a).un=LT false a:=Kc (fun _=>rfl) t 1 a
theorem Vt {α:Type} {f:α→List D} (hf:∀x,D.uns (f x)=f x) (l:List α):D.uns (l.flatMap f)=l.flatMap f:=by
 induction l with
 |nil=>rfl
 |cons x r ih=>rw[List.flatMap_cons,D.uns_eq,List.map_append,←D.uns_eq,←D.uns_eq,hf,ih]
theorem To (a:List Nat):D.uns (a.flatMap Qo)=a.flatMap Qo:=Vt (fun _=>rfl) a
theorem Tp (a:List Nat):D.uns (a.flatMap Xs)=a.flatMap Xs:=Vt (fun _=>rfl) a
theorem Tq (a:List (List UInt8)):D.uns (a.flatMap Xr)=a.flatMap Xr:=Vt (fun _=>rfl) a
abbrev uv (n:Nat):AV:= .d (.v (.int .u64 n))
abbrev wv (n:Nat):AV:= .d (.v (.int .u32 n))
theorem Qp (a:List Nat) (ha:a.length≤1000000000):Ab Tryz.prog 185 [.d (Vs false a)] (fun r=>r=bv (C0 a)):=by
 match a,ha with
 |[],_=>
  refine acQ 24 Tryz.func185 rfl rfl fun _ _ _=> ?_
  (repeat'((conv=>whnf);refine Ac ?_));(all_goals(conv=>whnf))
  all_goals exact zE
 |[x],_=>
  refine acQ 24 Tryz.func185 rfl rfl fun _ _ _=> ?_
  (repeat'((conv=>whnf);refine Ac ?_));(all_goals(conv=>whnf))
  all_goals exact zE
 |x::y::r,ha=>
  have h0:(x::y::r)[0]?=some x:=rfl
  have h1:(x::y::r)[1]?=some y:=rfl
  simp only[Ag] at ha
  by_cases c1:x≤2
  ·have g1:decide ((x:Int)>2)=false:=decide_eq_false (by omega)
   by_cases c2:x<2
   ·have g2:decide ((x:Int)<2)=true:=decide_eq_true (by omega)
    have e:C0 (x::y::r)=decide ((y:Int)<40):=by
     rw[C0,if_pos c2,decide_eq_true c1,Bool.true_and,decide_eq_decide];omega
    rw[e]
    refine acQ 24 Tryz.func185 rfl rfl fun _ _ _=> ?_
    (repeat'((conv=>whnf);first|refine Ae ?_|refine Ay asP ?_|refine A0 asP ?_|refine NIdx.tab (fun _=>rfl) h0 ?_|refine NIdx.tab (fun _=>rfl) h1 ?_|exact zE))
   ·have g2:decide ((x:Int)<2)=false:=decide_eq_false (by omega)
    have e:C0 (x::y::r)=decide ((y:Int)≤4294967215):=by
     rw[C0,if_neg c2,decide_eq_true c1,Bool.true_and,decide_eq_decide];omega
    rw[e]
    refine acQ 24 Tryz.func185 rfl rfl fun _ _ _=> ?_
    (repeat'((conv=>whnf);first|refine Ae ?_|refine A0 asP ?_|refine NIdx.tab (fun _=>rfl) h0 ?_|refine NIdx.tab (fun _=>rfl) h1 ?_|exact zE))
  ·have g1:decide ((x:Int)>2)=true:=decide_eq_true (by omega)
   have e:C0 (x::y::r)=false:=by rw[C0,decide_eq_false c1];rfl
   rw[e]
   refine acQ 24 Tryz.func185 rfl rfl fun _ _ _=> ?_
   (repeat'((conv=>whnf);first|refine Ae ?_|refine Ay asP ?_|refine NIdx.tab (fun _=>rfl) h0 ?_|exact zE))
def Ou (s:List UInt8):AV:=match Ex s with
 |some a=> .tup [.d (Vs true a),iv 0]
 |none=> .tup [A4,iv 11]
theorem Nz:∀{ps:List (List UInt8)} {a:List Nat},Dy ps=some a→a.length=ps.length
 |[],a,h=>by rw[Dy] at h;cases h;rfl
 |p::r,a,h=>by
  rw[Dy] at h
  split at h
  ·rename_i n l h1 h2
   cases h
   rw[Ag,Ag,Nz h2]
  ·cases h
theorem Vu:∀{ps:List (List UInt8)} {a:List Nat} {p:List UInt8} {n:Nat},Dy ps=some a→Od p=some n→Dy (ps++[p])=some (a++[n])
 |[],a,p,n,h,hp=>by rw[Dy] at h;cases h;rw[List.nil_append,Dy,hp];rfl
 |q::r,a,p,n,h,hp=>by
  rw[Dy] at h
  split at h
  ·rename_i m l h1 h2
   cases h
   rw[List.cons_append,Dy,h1,Vu h2 hp];rfl
  ·cases h
theorem Pe:∀{ps:List (List UInt8)} {p:List UInt8},p∈ps→Od p=none→Dy ps=none
 |q::r,p,h,hp=>by
  rw[Dy]
  rcases List.mem_cons.1 h with rfl|h
  ·rw[hp]
  ·rw[Pe h hp];cases Od q<;>rfl
theorem F2 {α:Type} {l:List α} {i:Nat} {x:α} (h:l[i]?=some x):l.take (i+1)=l.take i++[x]:=by
 obtain⟨hlt,he⟩:=Aw.1 h
 rw[List.take_succ_eq_append_getElem hlt,he]
theorem zW (a b:List UInt8):(a==b)=decide (a=b):=by
 by_cases h:a=b
 ·subst h;simp
 ·rw[decide_eq_false h];exact beq_false_of_ne h
theorem aQ:∀(s p:List UInt8),p∈Fj s→p.length≤s.length
 |[],p,h=>by simp[Fj] at h;subst h;simp
 |c::r,p,h=>by
  rw[Fj] at h
  split at h
  ·rcases List.mem_cons.1 h with rfl|h
   ·simp
   ·have:=aQ r p h;simp only[Ag];omega
  ·obtain⟨q,qs,hq⟩:=Jz r
   have ih:=aQ r
   rw[hq] at h ih
   rcases List.mem_cons.1 h with rfl|h
   ·have:=ih q (by simp);simp only[Ag];omega
   ·have:=ih p (by simp[h]);simp only[Ag];omega
theorem Vv {p:Prop} (h:p:=by first|rfl|(simp only[AV.gives,AV.ren,AV.give,D.un,D.uns,An,Ao,List.nil_append,List.append_nil,List.cons_append,Tm,K3,Tn,Bx,To,Tp,Tq];first|done|rfl)):p:=h
theorem Mw (s:List UInt8) (hs:s.length≤4000000):Ab Tryz.prog 143 [sx s] (fun r=>r=Ou s):=by
 have hS:=aP s hs
 have hdl:=Qn s
 have hple:=aQ s
 unfold Ou Ex
 generalize Fj s=ps at hS hdl hple⊢
 refine acQ 39 Tryz.func143 rfl rfl fun _ _ _=> ?_
 (repeat'((conv=>whnf);refine Aa hS rfl ?_));(all_goals(conv=>whnf))
 refine A5 [.s 4 1 212] (fun p:Nat×List Nat=>p.1≤ps.length∧Dy (ps.take p.1)=some p.2) (fun p=>ps.length-p.1) (fun p=>⟨[(4,Bx 4 1 212 Qo p.2),(10,.d (Vp true ps)),(11,iv ps.length),(12,iv p.1)],[],[(4,(p.2.length,1,212))]⟩) (0,[]) ⟨by simp,rfl⟩ leQ ?_
 rintro⟨i,ns⟩ ⟨hi,hns⟩
 simp only at hi hns
 have hnl:=Nz hns
 rw[Al] at hnl
 by_cases hik:i<ps.length
 ·obtain⟨p,hp⟩:∃p,ps[i]?=some p:=⟨_,Am hik⟩
  have hpl:=hple p (A8 hp)
  have hP:=lE p (by omega)
  unfold puA at hP
  have hh:(∃u,Lib.parseUintB 32 p= .ok u)∨∃n,Ab Tryz.prog 183 [sx p,iv 10,iv 32] (fun r=>r= .tup [uv n,tL])∧Od p=none:=by
   unfold Od
   generalize Lib.parseUintB 32 p=q at hP
   cases q with
   |ok u=>exact .inl ⟨u,rfl⟩
   |_=>exact .inr ⟨_,hP,rfl⟩
  rcases hh with⟨u,hu⟩|⟨n,hP',hn⟩
  ·rw[hu] at hP
   have hule:=Lib.parseUintB_le hu
   have hF:=oJ u (by omega)
   by_cases hd:Lib.decDigits u=p
   ·have ha:Od p=some u:=by unfold Od;rw[hu];exact if_pos hd
    have hne:(!(Lib.decDigits u==p))=false:=by rw[hd];simp
    (repeat'((conv=>whnf);first|refine Ae ?_|refine A0 asP ?_|refine NIdx.tab (fun _=>rfl) hp ?_|refine Aa hP rfl ?_|refine Aa hF rfl ?_|refine Aj (Vr rfl rfl (ltN rfl) rfl) ?_|refine A2 Qo u ?_|(with_reducible refine NInt.i64 ?_)|(with_reducible refine NInt.u32 ?_)|(refine Ai (fun hc hcP=> ?_) (fun hc hcP=> ?_)<;>try(exfalso;omega))));(all_goals(conv=>whnf))
    refine⟨(i+1,ns++[u]),⟨by show i+1≤_;omega,?_⟩,by show ps.length-(i+1)<ps.length-i;omega,?_⟩
    ·show Dy (ps.take (i+1))=_
     rw[F2 hp];exact Vu hns ha
    ·exact leQ
   ·have ha:Od p=none:=by unfold Od;rw[hu];exact if_neg hd
    have hne:(!(Lib.decDigits u==p))=true:=by rw[zW,decide_eq_false hd];rfl
    rw[Pe (A8 hp) ha]
    (repeat'((conv=>whnf);first|refine Ae ?_|refine Ay asP ?_|refine NIdx.tab (fun _=>rfl) hp ?_|refine Aa hP rfl ?_|refine Aa hF rfl ?_|refine Aj (Vr rfl rfl (ltN rfl) rfl) ?_|(refine Ai (fun hc hcP=> ?_) (fun hc hcP=> ?_)<;>try(exfalso;omega))|exact zE))
  ·rw[Pe (A8 hp) hn]
   (repeat'((conv=>whnf);first|refine Ac ?_|refine NIdx.tab (fun _=>rfl) hp ?_|refine Aa hP' rfl ?_|refine Aj (lF rfl rfl (ltN rfl) rfl) ?_|(refine Ai (fun hc hcP=> ?_) (fun hc hcP=> ?_)<;>try(exfalso;omega))|exact zE))
 ·obtain rfl:i=ps.length:=by omega
  rw[List.take_length] at hns
  have hR:=Qp ns (by omega)
  rw[hns]
  cases hr:C0 ns
  ·rw[hr] at hR
   simp only[hr]
   (repeat'((conv=>whnf);first|refine Ac ?_|refine Aa hR Vv ?_|(refine Ai (fun hc hcP=> ?_) (fun hc hcP=> ?_)<;>try(exfalso;omega))|exact zE))
  ·rw[hr] at hR
   simp only[hr]
   (repeat'((conv=>whnf);first|refine Ae ?_|refine Aa hR Vv ?_|(refine Ai (fun hc hcP=> ?_) (fun hc hcP=> ?_)<;>try(exfalso;omega))|exact zE))
theorem aR (s:List UInt8) (hs:s.length≤4000000):Ab Tryz.prog 142 [sx s] (fun r=>r=bv (E6 s)):=by
 have hA:=Mw s hs
 unfold Ou at hA
 unfold E6
 generalize Ex s=q at hA⊢
 cases q with
 |none=>
  refine acQ 12 Tryz.func142 rfl rfl fun _ _ _=> ?_
  (repeat'((conv=>whnf);refine Aa hA rfl ?_));(all_goals(conv=>whnf))
  all_goals exact zE
 |some a=>
  refine acQ 12 Tryz.func142 rfl rfl fun _ _ _=> ?_
  (repeat'((conv=>whnf);refine Aa hA rfl ?_));(all_goals(conv=>whnf))
  all_goals exact zE
theorem Ts (n:Nat) (hn:n≤4294967295):(Lib.decDigits n).length≤20:=by
 rw[Lib.decDigits_length]
 have:=Lib.nDigits_pos n
 rcases Nat.eq_zero_or_pos n with h|h
 ·subst h;rw[Lib.nDigits_small (by omega)];omega
 ·have:=Lib.numDigits_eq n h (by omega)
  have h2:=this.2
  have h3:=this.1
  split at h3<;>omega
theorem K4:∀(a:List Nat),(∀n∈a,n≤4294967295)→(Cd a).length≤21*a.length
 |[],_=>by simp[Cd]
 |[n],h=>by
  have:=Ts n (h n (by simp))
  rw[Cd,List.length_singleton];omega
 |n::m::r,h=>by
  have h1:=Ts n (h n (by simp))
  have h2:=K4 (m::r) (fun x hx=>h x (by simp[hx]))
  rw[Cd,Ap,Ag]
  simp only[Ag] at h2⊢
  omega
theorem fE (a:List Nat) (hb:∀n∈a,n≤4294967295) (ha:a.length≤4000000):Ab Tryz.prog 177 [.d (Vs false a)] (fun r=>r=if C0 a then .tup [sx (Cd a),iv 0] else .tup [sx [],iv 8]):=by
 have hR:=Qp a (by omega)
 cases hr:C0 a
 ·rw[hr] at hR
  rw[if_neg (by simp)]
  refine acQ 25 Tryz.func177 rfl rfl fun _ _ _=> ?_
  (repeat'((conv=>whnf);first|refine Ac ?_|refine Aa hR Vv ?_|exact zE))
 ·rw[hr] at hR
  rw[if_pos rfl]
  obtain⟨x,y,r,hxy,-⟩:=Ey hr
  have htl:=K4 a hb
  have hJ:=zV (a.map Lib.decDigits) (by rw[hxy];simp) (by rw[List.length_map];omega) (by rw[Ry];omega)
  rw[Ry] at hJ
  refine acQ 25 Tryz.func177 rfl rfl fun _ _ _=> ?_
  (repeat'((conv=>whnf);first|refine Ae ?_|refine Aa hR Vv ?_));(all_goals(conv=>whnf))
  refine A5 [.s 4 1 9] (fun i:Nat=>i≤a.length) (fun i=>a.length-i) (fun i=>⟨[(4,Bx 4 1 9 Xr ((a.take i).map Lib.decDigits)),(10,.d (Vs false a)),(11,iv a.length),(12,iv i)],[],[(4,(((a.take i).map Lib.decDigits).length,1,9))]⟩) 0 (by simp) leQ ?_
  intro i hi
  by_cases hik:i<a.length
  ·obtain⟨n,hn⟩:∃n,a[i]?=some n:=⟨_,Am hik⟩
   have hn2:=hb n (A8 hn)
   have hF:=oJ n (by omega)
   have hl:((a.take i).map Lib.decDigits).length≤4000000:=by rw[List.length_map,Al];omega
   (repeat'((conv=>whnf);first|refine NIdx.tab (fun _=>rfl) hn ?_|refine Aa hF rfl ?_|refine A2 Xr (Lib.decDigits n) ?_|(with_reducible refine NInt.i64 ?_)|(with_reducible refine NInt.u64 ?_)|(refine Ai (fun hc hcP=> ?_) (fun hc hcP=> ?_)<;>try(exfalso;omega))));(all_goals(conv=>whnf))
   refine⟨i+1,by omega,by omega,?_⟩
   rw[F2 hn,List.map_append]
   exact leQ
  ·obtain rfl:i=a.length:=by omega
   rw[List.take_length]
   (repeat'((conv=>whnf);first|refine Aa hJ Vv ?_|(refine Ai (fun hc hcP=> ?_) (fun hc hcP=> ?_)<;>try(exfalso;omega))|exact zE))
theorem zX {P:Program} {C:Cx} {o:Oper} {σ:AS} {t:Nat} {k k':IntKind} {m n:Int} {x y:Operand} {ats:Array TypeId} (v:Int) (hv:(if n<m then n else m)=v) (ho:o.op= .call {callee:= .builtin .min,args:=#[x,y],argTypes:=ats}) (hd:o.dst=some t) (ht:t<C.N) (hx:σ.eval x=some (.d (.v (.int k m)))) (hy:σ.eval y=some (.d (.v (.int k' n)))):Bp P C o σ (σ.put t (.d (.v (.int k v)))):=
 Ba hd ht fun a w bm gt fp hg=>by
  have h1:=(hg.eval hx).val
  have h2:=(hg.eval hy).val
  refine⟨_,?_,.d (.v _)⟩
  simp only[execOp,ho,resolve,invoke,builtin,Sem.run_bind,Sem.run_pure,Result.andThen_ok,List.map_toArray,List.map_cons,List.map_nil,h1,h2]
  subst hv
  simp[go_sem]
  omega
theorem LU (x:UInt8):IntKind.u8.wrap ((BitVec.ofInt IntKind.u8.bits (x.toNat:Int)&&&BitVec.ofInt IntKind.u8.bits 127).toNat:Int)=((x.toNat%128:Nat):Int):=by
 have h:∀x:Fin 256,IntKind.u8.wrap ((BitVec.ofInt IntKind.u8.bits (x.1:Int)&&&BitVec.ofInt IntKind.u8.bits 127).toNat:Int)=((x.1%128:Nat):Int):=by decide+kernel
 exact h ⟨x.toNat,x.toNat_lt⟩
theorem LV (x:UInt8):IntKind.u8.wrap ((BitVec.ofInt IntKind.u8.bits (x.toNat:Int)&&&BitVec.ofInt IntKind.u8.bits 128).toNat:Int)=((x.toNat/128*128:Nat):Int):=by
 have h:∀x:Fin 256,IntKind.u8.wrap ((BitVec.ofInt IntKind.u8.bits (x.1:Int)&&&BitVec.ofInt IntKind.u8.bits 128).toNat:Int)=((x.1/128*128:Nat):Int):=by decide+kernel
 exact h ⟨x.toNat,x.toNat_lt⟩
theorem QD (n:Nat) (hn:n≤4294967295):IntKind.u64.wrap ((n:Int)*2^(min (Int.toNat 7) IntKind.u64.bits))=((n*128:Nat):Int):=by
 have:(2:Int)^(min (Int.toNat 7) IntKind.u64.bits)=128:=by decide
 rw[this,IntWalk.u64_in _ (by omega)];omega
theorem or7 (n m:Nat) (hn:n≤4294967295) (hm:m<128):IntKind.u64.wrap ((BitVec.ofInt IntKind.u64.bits ((n*128:Nat):Int)|||BitVec.ofInt IntKind.u64.bits (m:Int)).toNat:Int)=((n*128+m:Nat):Int):=by
 rw[BitVec.toNat_or,BitVec.ofInt_natCast,BitVec.ofInt_natCast,BitVec.toNat_ofNat,BitVec.toNat_ofNat]
 have hb64:2^IntKind.u64.bits=18446744073709551616:=by decide
 rw[hb64,Nat.mod_eq_of_lt (by omega),Nat.mod_eq_of_lt (by omega)]
 have:n*128|||m=n*128+m:=by
  have h:=Nat.shiftLeft_add_eq_or_of_lt (i:=7) (b:=m) (by omega) n
  rw[Nat.shiftLeft_eq] at h
  exact h.symm
 rw[this,IntWalk.u64_in _ (by omega)]
def G9 (ns:List Nat):Option (List Nat)→Option (List Nat)
 |some l=>some (ns++l)
 |none=>none
theorem Vw (ns:List Nat) (n:Nat) (o:Option (List Nat)):G9 ns (match o with|some l=>some (n::l)|none=>none)=G9 (ns++[n]) o:=by
 cases o with
 |none=>rfl
 |some l=>show some (ns++n::l)=some (ns++[n]++l);simp
theorem Qq {α:Type} {l:List α} {i:Nat} {x:α} (h:l[i]?=some x):l.drop i=x::l.drop (i+1):=by
 obtain⟨h1,h2⟩:=Aw.1 h
 rw[List.drop_eq_getElem_cons h1,h2]
theorem lG {c:List UInt8} {i:Nat} {x:UInt8} {b:Bool} {n:Nat} (hx:c[i]?=some x):Cn b n (c.drop i)=if b=false∧x=128 then none else if n*128+x.toNat%128>4294967295 then none else if x.toNat<128 then(match Cn false 0 (c.drop (i+1)) with
 |some l=>some ((n*128+x.toNat%128)::l)
 |none=>none) else Cn true (n*128+x.toNat%128) (c.drop (i+1)):=by
 rw[Qq hx,Cn]<;>rfl
def Oe (c:List UInt8):AV:= .tup [sx (odT c),iv (odC c)]
theorem N0 {c:List UInt8} (h:Cn false 0 c=none∨Cn false 0 c=some []):Oe c= .tup [sx [],iv 6]:=by
 have:Mv c=none:=by unfold Mv;rcases h with h|h<;>rw[h]
 unfold Oe odT odC
 rw[this];rfl
theorem tN {c:List UInt8} {n:Nat} {r:List Nat} (h:Cn false 0 c=some (n::r)):Oe c= .tup [sx (Cd (Ch (n::r))),iv 0]:=by
 have:Mv c=some (Ch (n::r)):=by unfold Mv;rw[h]
 unfold Oe odT odC
 rw[this];rfl
structure DSt where
 i:Nat
 ns:List Nat
 b:Bool
 n:Nat
theorem GC {p:Prop} (h:p:=by first|rfl|(simp only[AV.gives,AV.ren,AV.give,D.un,D.uns,An,Ao,List.nil_append,List.append_nil,List.cons_append,Tm,K3,Tn,Bx,To,Tp,Tq];first|done|rfl)):p:=h
theorem Pf (c:List UInt8) (hc:c.length≤900000):Ab Tryz.prog 137 [.d (Af false c)] (fun r=>r=Oe c):=by
 refine acQ 87 Tryz.func137 rfl rfl fun _ _ _=> ?_
 (all_goals(conv=>whnf))
 refine A5 [.s 4 1 187] (fun p:DSt=>p.i≤c.length∧p.ns.length≤p.i∧p.n≤4294967295∧(p.b=false→p.n=0)∧Cn false 0 c=G9 p.ns (Cn p.b p.n (c.drop p.i))) (fun p=>c.length-p.i) (fun p=>⟨[(4,Bx 4 1 187 Xs p.ns),(5,bv p.b),(6,uv p.n),(15,.d (Af false c)),(16,iv c.length),(17,iv p.i)],[],[(4,(p.ns.length,1,187))]⟩) ⟨0,[],false,0⟩ ⟨by simp,by simp,by simp,by simp,(by show Cn false 0 c=G9 [] (Cn false 0 c);cases Cn false 0 c<;>rfl)⟩ leQ ?_
 rintro⟨i,ns,b,n⟩ ⟨hi,hnl,hn,hb0,he⟩
 simp only at hi hnl hn hb0 he
 by_cases hik:i<c.length
 ·obtain⟨x,hx⟩:∃x,c[i]?=some x:=⟨_,Am hik⟩
  have hxl:=x.toNat_lt
  rw[lG hx] at he
  have hb1:(!b&&((x.toNat:Int)==128))=decide (b=false∧x=128):=by
   have:((x.toNat:Int)==128)=decide (x=128):=by
    rw[Bool.eq_iff_iff,beq_iff_eq,decide_eq_true_eq,←UInt8.toNat_inj]
    show _↔x.toNat=128
    omega
   rw[this];cases b<;>simp
  by_cases c1:b=false∧x=128
  ·rw[if_pos c1] at he
   rw[N0 (.inl he)]
   obtain⟨rfl,rfl⟩:=c1
   have g:(((128:UInt8).toNat:Int)==128)=true:=by decide
   (repeat'((conv=>whnf);first|refine Ac ?_|refine NIdx.bytes hx ?_|(refine NBr.mk (fun hc=> ?_) (fun hc=> ?_)<;>(have hcP:=hc;(try simp only[decide_eq_true_eq,decide_eq_false_iff_not] at hcP)<;>first|(exfalso;omega)|skip))|exact zE))
  ·rw[if_neg c1] at he
   have e1:=LU x
   have e2:=LV x
   have e3:=QD n hn
   have e4:=or7 n (x.toNat%128) hn (by omega)
   by_cases c2:n*128+x.toNat%128>4294967295
   ·rw[if_pos c2] at he
    rw[N0 (.inl he)]
    have g2:decide (((n*128+x.toNat%128:Nat):Int)>4294967295)=true:=decide_eq_true (by omega)
    cases b
    ·have g:((x.toNat:Int)==128)=false:=by
      rw[Bool.not_false,Bool.true_and] at hb1
      rw[hb1,decide_eq_false c1]
     (repeat'((conv=>whnf);first|refine Ac ?_|refine Ay asP ?_|refine A0 asP ?_|refine NIdx.bytes hx ?_|refine NInt.as (((n*128:Nat):Int)) (e3) ?_|refine NInt.as (((x.toNat%128:Nat):Int)) (e1) ?_|refine NInt.as (((n*128+x.toNat%128:Nat):Int)) (e4) ?_|refine NInt.as (((x.toNat/128*128:Nat):Int)) (e2) ?_|(with_reducible refine NInt.u64 ?_)|refine Au (by first|decide|omega|(simp only[Ag,List.length_nil];omega)) ?_|(refine NBr.mk (fun hc=> ?_) (fun hc=> ?_)<;>(have hcP:=hc;(try simp only[decide_eq_true_eq,decide_eq_false_iff_not] at hcP)<;>first|(exfalso;omega)|skip))|exact zE))
    ·(repeat'((conv=>whnf);first|refine Ae ?_|refine Ay asP ?_|refine NIdx.bytes hx ?_|refine NInt.as (((n*128:Nat):Int)) (e3) ?_|refine NInt.as (((x.toNat%128:Nat):Int)) (e1) ?_|refine NInt.as (((n*128+x.toNat%128:Nat):Int)) (e4) ?_|refine NInt.as (((x.toNat/128*128:Nat):Int)) (e2) ?_|(with_reducible refine NInt.u64 ?_)|refine Au (by first|decide|omega|(simp only[Ag,List.length_nil];omega)) ?_|(refine NBr.mk (fun hc=> ?_) (fun hc=> ?_)<;>(have hcP:=hc;(try simp only[decide_eq_true_eq,decide_eq_false_iff_not] at hcP)<;>first|(exfalso;omega)|skip))|exact zE))
   ·rw[if_neg c2] at he
    have g2:decide (((n*128+x.toNat%128:Nat):Int)>4294967295)=false:=decide_eq_false (by omega)
    by_cases c3:x.toNat<128
    ·rw[if_pos c3,Vw] at he
     have g3:(((x.toNat/128*128:Nat):Int) !=0)=false:=by rw[bne_eq_false_iff_eq];omega
     cases b
     ·have g:((x.toNat:Int)==128)=false:=by
       rw[Bool.not_false,Bool.true_and] at hb1
       rw[hb1,decide_eq_false c1]
      (repeat'((conv=>whnf);first|refine Ac ?_|refine A0 asP ?_|refine NIdx.bytes hx ?_|refine NInt.as (((n*128:Nat):Int)) (e3) ?_|refine NInt.as (((x.toNat%128:Nat):Int)) (e1) ?_|refine NInt.as (((n*128+x.toNat%128:Nat):Int)) (e4) ?_|refine NInt.as (((x.toNat/128*128:Nat):Int)) (e2) ?_|refine A2 Xs (n*128+x.toNat%128) ?_|(with_reducible refine NInt.i64 ?_)|(with_reducible refine NInt.u64 ?_)|refine Au (by first|decide|omega|(simp only[Ag,List.length_nil];omega)) ?_|(refine NBr.mk (fun hc=> ?_) (fun hc=> ?_)<;>(have hcP:=hc;(try simp only[decide_eq_true_eq,decide_eq_false_iff_not,bne_iff_ne,bne_eq_false_iff_eq,ne_eq,Bool.not_eq_true',Bool.not_eq_false'] at hcP)<;>first|(exfalso;omega)|skip))));(all_goals(conv=>whnf))
      refine⟨⟨i+1,ns++[n*128+x.toNat%128],(((x.toNat/128*128:Nat):Int) !=0),0⟩,⟨by show i+1≤_;omega,by simp;omega,by simp,fun _=>rfl,?_⟩,by show c.length-(i+1)<c.length-i;omega,?_⟩
      ·show Cn false 0 c=G9 _ (Cn (((x.toNat/128*128:Nat):Int) !=0) 0 (c.drop (i+1)))
       rw[g3];exact he
      ·exact leQ
     ·(repeat'((conv=>whnf);first|refine Ae ?_|refine A0 asP ?_|refine NIdx.bytes hx ?_|refine NInt.as (((n*128:Nat):Int)) (e3) ?_|refine NInt.as (((x.toNat%128:Nat):Int)) (e1) ?_|refine NInt.as (((n*128+x.toNat%128:Nat):Int)) (e4) ?_|refine NInt.as (((x.toNat/128*128:Nat):Int)) (e2) ?_|refine A2 Xs (n*128+x.toNat%128) ?_|(with_reducible refine NInt.i64 ?_)|(with_reducible refine NInt.u64 ?_)|refine Au (by first|decide|omega|(simp only[Ag,List.length_nil];omega)) ?_|(refine NBr.mk (fun hc=> ?_) (fun hc=> ?_)<;>(have hcP:=hc;(try simp only[decide_eq_true_eq,decide_eq_false_iff_not,bne_iff_ne,bne_eq_false_iff_eq,ne_eq,Bool.not_eq_true',Bool.not_eq_false'] at hcP)<;>first|(exfalso;omega)|skip))));(all_goals(conv=>whnf))
      refine⟨⟨i+1,ns++[n*128+x.toNat%128],(((x.toNat/128*128:Nat):Int) !=0),0⟩,⟨by show i+1≤_;omega,by simp;omega,by simp,fun _=>rfl,?_⟩,by show c.length-(i+1)<c.length-i;omega,?_⟩
      ·show Cn false 0 c=G9 _ (Cn (((x.toNat/128*128:Nat):Int) !=0) 0 (c.drop (i+1)))
       rw[g3];exact he
      ·exact leQ
    ·rw[if_neg c3] at he
     have g3:(((x.toNat/128*128:Nat):Int) !=0)=true:=by rw[bne_iff_ne];omega
     cases b
     ·have g:((x.toNat:Int)==128)=false:=by
       rw[Bool.not_false,Bool.true_and] at hb1
       rw[hb1,decide_eq_false c1]
      (repeat'((conv=>whnf);first|refine Ac ?_|refine A0 asP ?_|refine NIdx.bytes hx ?_|refine NInt.as (((n*128:Nat):Int)) (e3) ?_|refine NInt.as (((x.toNat%128:Nat):Int)) (e1) ?_|refine NInt.as (((n*128+x.toNat%128:Nat):Int)) (e4) ?_|refine NInt.as (((x.toNat/128*128:Nat):Int)) (e2) ?_|(with_reducible refine NInt.i64 ?_)|(with_reducible refine NInt.u64 ?_)|refine Au (by first|decide|omega|(simp only[Ag,List.length_nil];omega)) ?_|(refine NBr.mk (fun hc=> ?_) (fun hc=> ?_)<;>(have hcP:=hc;(try simp only[decide_eq_true_eq,decide_eq_false_iff_not,bne_iff_ne,bne_eq_false_iff_eq,ne_eq,Bool.not_eq_true',Bool.not_eq_false'] at hcP)<;>first|(exfalso;omega)|skip))));(all_goals(conv=>whnf))
      refine⟨⟨i+1,ns,(((x.toNat/128*128:Nat):Int) !=0),n*128+x.toNat%128⟩,⟨by show i+1≤_;omega,by show ns.length≤i+1;omega,by show n*128+x.toNat%128≤_;omega,fun h=> ?_,?_⟩,by show c.length-(i+1)<c.length-i;omega,?_⟩
      ·rw[show(((x.toNat/128*128:Nat):Int) !=0)=false from h] at g3;cases g3
      ·show Cn false 0 c=G9 _ (Cn (((x.toNat/128*128:Nat):Int) !=0) _ (c.drop (i+1)))
       rw[g3];exact he
      ·exact leQ
     ·(repeat'((conv=>whnf);first|refine Ae ?_|refine A0 asP ?_|refine NIdx.bytes hx ?_|refine NInt.as (((n*128:Nat):Int)) (e3) ?_|refine NInt.as (((x.toNat%128:Nat):Int)) (e1) ?_|refine NInt.as (((n*128+x.toNat%128:Nat):Int)) (e4) ?_|refine NInt.as (((x.toNat/128*128:Nat):Int)) (e2) ?_|(with_reducible refine NInt.i64 ?_)|(with_reducible refine NInt.u64 ?_)|refine Au (by first|decide|omega|(simp only[Ag,List.length_nil];omega)) ?_|(refine NBr.mk (fun hc=> ?_) (fun hc=> ?_)<;>(have hcP:=hc;(try simp only[decide_eq_true_eq,decide_eq_false_iff_not,bne_iff_ne,bne_eq_false_iff_eq,ne_eq,Bool.not_eq_true',Bool.not_eq_false'] at hcP)<;>first|(exfalso;omega)|skip))));(all_goals(conv=>whnf))
      refine⟨⟨i+1,ns,(((x.toNat/128*128:Nat):Int) !=0),n*128+x.toNat%128⟩,⟨by show i+1≤_;omega,by show ns.length≤i+1;omega,by show n*128+x.toNat%128≤_;omega,fun h=> ?_,?_⟩,by show c.length-(i+1)<c.length-i;omega,?_⟩
      ·rw[show(((x.toNat/128*128:Nat):Int) !=0)=false from h] at g3;cases g3
      ·show Cn false 0 c=G9 _ (Cn (((x.toNat/128*128:Nat):Int) !=0) _ (c.drop (i+1)))
       rw[g3];exact he
      ·exact leQ
 ·obtain rfl:i=c.length:=by omega
  rw[List.drop_length] at he
  cases b
  ·rw[Cn,if_neg (by simp)] at he
   simp only[G9,List.append_nil] at he
   cases ns with
   |nil=>
    rw[N0 (.inr he)]
    (repeat'((conv=>whnf);first|refine Ac ?_|refine Ae ?_|(refine NBr.mk (fun hc=> ?_) (fun hc=> ?_)<;>(have hcP:=hc;(try simp only[decide_eq_true_eq,decide_eq_false_iff_not] at hcP)<;>first|(exfalso;omega)|skip))|exact zE))
   |cons n0 r=>
    rw[tN he]
    obtain⟨-,k2⟩:=Ja c false 0 _ (by omega) (by simp) (fun _=>rfl) he
    obtain⟨k3,k4,k5⟩:=G8 (l:=n0::r) (by simp) k2
    have hn0:=k2 n0 (by simp)
    rw[Ag] at hnl
    have hT:=fE (Ch (n0::r)) k4 (by rw[Ch];simp only[Ag];omega)
    rw[if_pos k3] at hT
    have h0:(n0::r)[0]?=some n0:=rfl
    have hz:((((n0::r).length:Nat):Int)==0)=false:=by rw[Ag,beq_eq_false_iff_ne];omega
    have hm:(if(2:Int)<((n0/40:Nat):Int) then(2:Int) else((n0/40:Nat):Int))=((min (n0/40) 2:Nat):Int):=by
     split<;>omega
    have w1:IntKind.u32.wrap ((min (n0/40) 2:Nat):Int)=((min (n0/40) 2:Nat):Int):=IntWalk.u32_in _ (by omega)
    generalize hq:min (n0/40) 2=q at hT hm w1
    have hq2:q≤2∧q*40≤n0:=by omega
    have hul:Ch (n0::r)=q::(n0-40*q)::r:=by rw[Ch,hq]
    rw[hul] at hT⊢
    have hdr:((n0::r).drop 1).take ((n0::r).length-1)=r:=by simp
    have ar:∀m:Int,m=((n0-40*q:Nat):Int)→IntKind.u64.wrap m=((n0-40*q:Nat):Int):=fun m hm=>by rw[hm,IntWalk.u64_in _ (by omega)]
    (repeat'((conv=>whnf);first|refine Ae ?_|refine NIdx.tab (fun _=>rfl) h0 ?_|refine NSl.tab (fun _=>rfl) 1 (n0::r).length r hdr ?_|refine Aj (zX ((q:Nat):Int) hm rfl rfl (ltN rfl) rfl rfl) ?_|refine NInt.as (((n0-40*q:Nat):Int)) (ar _ (by omega)) ?_|(with_reducible refine NInt.u32 ?_)|(with_reducible refine NInt.u64 ?_)|(with_reducible refine Bz ?_)|refine Au (by first|decide|omega|(simp only[Ag,List.length_nil];omega)) ?_|(refine NBr.mk (fun hc=> ?_) (fun hc=> ?_)<;>(have hcP:=hc;(try simp only[decide_eq_true_eq,decide_eq_false_iff_not] at hcP)<;>first|(exfalso;omega)|skip))));(all_goals(conv=>whnf))
    refine Ax (fun i:Nat=>i≤r.length) (fun i=>r.length-i) (fun i=>⟨[(10,Bx 65 1 212 Qo (q::(n0-40*q)::r.take i)),(67,.d (LT true r)),(68,iv r.length),(69,iv i)],[],[(65,((q::(n0-40*q)::r.take i).length,1,212))]⟩) 0 (by simp) leQ ?_
    intro i hi
    by_cases hik:i<r.length
    ·obtain⟨m,hm⟩:∃n,r[i]?=some n:=⟨_,Am hik⟩
     have hmb:=k2 m (by simp[A8 hm])
     (repeat'((conv=>whnf);first|refine NIdx.tab (fun _=>rfl) hm ?_|refine A2 Qo m ?_|(with_reducible refine NInt.i64 ?_)|(with_reducible refine NInt.u32 ?_)|(refine NBr.mk (fun hc=> ?_) (fun hc=> ?_)<;>(have hcP:=hc;(try simp only[decide_eq_true_eq,decide_eq_false_iff_not] at hcP)<;>first|(exfalso;omega)|skip))));(all_goals(conv=>whnf))
     refine⟨i+1,by omega,by omega,?_⟩
     rw[F2 hm]
     exact leQ
    ·obtain rfl:i=r.length:=by omega
     rw[List.take_length]
     (repeat'((conv=>whnf);first|refine Ae ?_|refine Aa hT GC ?_|(refine NBr.mk (fun hc=> ?_) (fun hc=> ?_)<;>(have hcP:=hc;(try simp only[decide_eq_true_eq,decide_eq_false_iff_not] at hcP)<;>first|(exfalso;omega)|skip))|exact zE))
  ·rw[Cn,if_pos rfl] at he
   rw[N0 (.inl he)]
   (repeat'((conv=>whnf);first|refine Ac ?_|(refine NBr.mk (fun hc=> ?_) (fun hc=> ?_)<;>(have hcP:=hc;(try simp only[decide_eq_true_eq,decide_eq_false_iff_not] at hcP)<;>first|(exfalso;omega)|skip))|exact zE))
theorem Qr (l:Bool):∀(k n:Nat),n<128^(k+1)→(Cm l n).length≤k+1:=by
 intro k
 induction k generalizing l with
 |zero=>intro n h;rw[Dt l (by simpa using h)];simp
 |succ k ih=>
  intro n h
  by_cases h2:n<128
  ·rw[Dt l h2];simp
  ·have:=ih false (n/128) (by rw[Nat.pow_succ] at h;omega)
   rw[Gb l h2,Ap,List.length_singleton];omega
theorem oK (n:Nat) (hn:n≤4294967295):IntKind.u32.wrap ((BitVec.ofInt IntKind.u32.bits (n:Int)&&&BitVec.ofInt IntKind.u32.bits 127).toNat:Int)=((n%128:Nat):Int):=by
 rw[show(127:Int)=((127:Nat):Int) from rfl,BitVec.ofInt_natCast,BitVec.ofInt_natCast,BitVec.toNat_and,BitVec.toNat_ofNat,BitVec.toNat_ofNat]
 have hb:2^IntKind.u32.bits=4294967296:=by decide
 rw[hb,Nat.mod_eq_of_lt (by omega),Nat.mod_eq_of_lt (by omega)]
 have:=Nat.and_two_pow_sub_one_eq_mod n 7
 rw[show 2^7-1=127 from rfl] at this
 rw[this,IntWalk.u32_in _ (by omega)]
theorem LW (m:Nat) (hm:m<128):IntKind.u32.wrap ((BitVec.ofInt IntKind.u32.bits (m:Int)|||BitVec.ofInt IntKind.u32.bits 128).toNat:Int)=((m+128:Nat):Int):=by
 have h:∀x:Fin 128,IntKind.u32.wrap ((BitVec.ofInt IntKind.u32.bits (x.1:Int)|||BitVec.ofInt IntKind.u32.bits 128).toNat:Int)=((x.1+128:Nat):Int):=by decide+kernel
 exact h ⟨m,hm⟩
theorem JQ (n:Nat):(n:Int).fdiv (2^(min (Int.toNat 7) IntKind.u32.bits))=((n/128:Nat):Int):=FT (k:=7) n rfl
def hiB (q:Nat):List UInt8:=if q=0 then [] else Cm false q
theorem oL (l:Bool) (n:Nat):Cm l n=hiB (n/128)++[UInt8.ofNat (n%128+if l then 0 else 128)]:=by
 unfold hiB
 by_cases h:n<128
 ·rw[Dt l h,if_pos (show n/128=0 by omega)];rfl
 ·rw[Gb l h,if_neg (show¬n/128=0 by omega)]
theorem oM (n:Nat) (hn:n≤4294967295) {c:Code} (hc:Tryz.f144.body=some c) (vs:List Value) (hv:fA [wv n,.ptr 6 0] vs) (W:World) (fp0 z0:Nat→Nat→Prop):
 oI Tryz.prog ⟨W,fp0,26,fun _=>none,z0⟩ tab (Vj 3 c) (fun tm bx tk=>LS vs [1] 3 (Cm true n).length 1 5 (Ak (Cm true n)) ⟨tm,bx,tk⟩) (Vn 0 vs) [] []:=by
 have hc':=Option.some.inj hc
 match vs,hv with
 |[v0,v1],hv=>
  obtain⟨rfl,-⟩:=hv
  subst hc'
  have hL:=Qr true 4 n (by omega)
  have e1:=oK n hn
  have e2:=JQ n
  (repeat'((conv=>whnf);first|refine NInt.as (((n%128:Nat):Int)) (e1) ?_|refine NInt.as (((n/128:Nat):Int)) (e2) ?_|(with_reducible refine Ky ?_)|refine Au (by first|decide|omega|(simp only[Ag,List.length_nil];omega)) ?_));(all_goals(conv=>whnf))
  refine Ax (fun p:Nat×List UInt8=>p.1≤4294967295∧0<p.2.length∧hiB p.1++p.2.reverse=Cm true n) (fun p=>p.1) (fun p=>⟨[(0,wv p.1),(1,.d (.v v1)),(3,Bb 7 5 p.2)],[],[(7,(p.2.length,1,5))]⟩) (n/128,[UInt8.ofNat (n%128)]) ⟨by show n/128≤_;omega,by simp,(by rw[oL];rfl)⟩ leQ ?_
  rintro⟨q,acc⟩ ⟨hq,ha,he⟩
  simp only[] at hq ha he
  have hal:acc.length≤5:=by
   have:=congrArg List.length he
   simp only[Ap,List.length_reverse] at this
   omega
  by_cases h0:q=0
  ·subst h0
   rw[hiB,if_pos rfl,List.nil_append] at he
   (repeat'((conv=>whnf);refine Ae ?_));(all_goals(conv=>whnf))
   refine Aj (eG (l:=acc) (tm':=[(1,.d (.v v1)),(3,Bb 7 5 acc.reverse)]) Tryz.laysRev (Mk Tryz.func145 (by kernel_rfl) rfl) rfl rfl (ltN rfl) rfl rfl ha (by omega) (.v rfl (.own rfl .nil)) rfl) ?_
   (all_goals(conv=>whnf))
   rw[he]
   exact⟨7,rfl,rfl,⟨v1,rfl,rfl⟩,trivial⟩
  ·have hq2:hiB q=hiB (q/128)++[UInt8.ofNat (q%128+128)]:=by
    conv=>lhs;rw[hiB,if_neg h0,oL]
    rfl
   have e3:=oK q hq
   have e4:=LW (q%128) (by omega)
   have e5:=JQ q
   rw[hq2] at he
   (repeat'((conv=>whnf);first|refine NInt.as (((q%128:Nat):Int)) (e3) ?_|refine NInt.as (((q%128+128:Nat):Int)) (e4) ?_|refine NInt.as (((q/128:Nat):Int)) (e5) ?_|(with_reducible refine Ky ?_)|refine Is (_) ?_|refine Au (by first|decide|omega|(simp only[Ag,List.length_nil];omega)) ?_|(refine Ai (fun hc hcP=> ?_) (fun hc hcP=> ?_)<;>try(exfalso;omega))));(all_goals(conv=>whnf))
   refine⟨(q/128,acc++[UInt8.ofNat (q%128+128)]),⟨by show q/128≤_;omega,by simp,?_⟩,by show q/128<q;omega,?_⟩
   ·show hiB (q/128)++(acc++[UInt8.ofNat (q%128+128)]).reverse=_
    rw[←he];simp
   ·exact leQ
theorem tP {s:List UInt8} {a:List Nat} (h:Ex s=some a):a.length≤s.length+1:=by
 unfold Ex at h
 split at h
 ·rename_i a' h1
  split at h
  ·cases h
   rw[Nz h1];exact Qn s
  ·cases h
 ·cases h
theorem Sz:∀(l:List Nat),(∀n∈l,n≤4294967295)→(l.flatMap (Cm true)).length≤5*l.length
 |[],_=>by simp
 |n::r,h=>by
  have h1:=Qr true 4 n (by have:=h n (by simp);omega)
  have h2:=Sz r (fun m hm=>h m (by simp[hm]))
  rw[List.flatMap_cons,Ap,Ag];omega
theorem fF (s:List UInt8) (hs:s.length≤4000000) (h:Ex s=none):Ab Tryz.prog 106 [sx s] (fun r=>r= .tup [.d (Af true []),iv 8]):=by
 have hA:=Mw s hs
 unfold Ou at hA
 rw[h] at hA
 refine acQ 40 Tryz.func106 rfl rfl fun _ _ _=> ?_
 (repeat'((conv=>whnf);first|refine Ac ?_|refine Aa hA rfl ?_|exact zE))
theorem fG (s:List UInt8) (hs:s.length≤4000000) {a:List Nat} (h:Ex s=some a):Ab Tryz.prog 106 [sx s] (fun r=>r= .tup [.d (Af true (Mt a)),iv 0]):=by
 have hA:=Mw s hs
 unfold Ou at hA
 rw[h] at hA
 obtain⟨k1,k2,k3⟩:=Hu h
 obtain⟨x,y,r,rfl,x2,xy,y2⟩:=Ey k1
 have h0:(x::y::r)[0]?=some x:=rfl
 have h1:(x::y::r)[1]?=some y:=rfl
 have hxy:40*x+y≤4294967295:=by
  by_cases hx:x<2
  ·have:=xy hx;omega
  ·omega
 refine acQ 40 Tryz.func106 rfl rfl fun _ _ _=> ?_
 have e1:∀z:Int,z=((40*x+y:Nat):Int)→IntKind.u32.wrap z=((40*x+y:Nat):Int):=fun z hz=>by rw[hz,IntWalk.u32_in _ (by omega)]
 have hdr:((x::y::r).drop 2).take ((x::y::r).length-2)=r:=by simp
 have hL:=Qr true 4 (40*x+y) (by omega)
 have hal:=tP h
 simp only[Ag] at hal
 (repeat'((conv=>whnf);first|refine Ae ?_|refine Aa hA rfl ?_|refine NIdx.tab (fun _=>rfl) h0 ?_|refine NIdx.tab (fun _=>rfl) h1 ?_|refine NInt.as (((40*x+y:Nat):Int)) (e1 _ (by omega)) ?_|(with_reducible refine NInt.u32 ?_)|refine zF ?_));(all_goals(conv=>whnf))
 refine Vo 3 3 200 (Cm true (40*x+y)).length 1 5 (Ak (Cm true (40*x+y))) [1] 100 26 #[] C2 mixed rfl rfl rfl rfl Tryz.func144 rfl (by kernel_rfl) rfl rfl rfl rfl rfl (fun vs hv W fp0 z0=>oM (40*x+y) hxy rfl vs hv W fp0 z0) (fun gh=> ?_)
 (repeat'((conv=>whnf);first|refine NSl.tab (fun _=>rfl) 2 (x::y::r).length r hdr ?_|(with_reducible refine Mo ?_)));(all_goals(conv=>whnf))
 refine Ax (fun i:Nat=>i≤r.length) (fun i=>r.length-i) (fun i=>⟨[(6,.ptr 6 0),(7,.cl 144 [] [.ptr 6 0]),(29,.d (Vs true r)),(30,iv r.length),(31,iv i)],[(6,[Bb 125 5 (Cm true (40*x+y)++(r.take i).flatMap (Cm true))])],[(125,((Cm true (40*x+y)++(r.take i).flatMap (Cm true)).length,1,5))]⟩) 0 (by simp) (by rw[List.take_zero,List.flatMap_nil,List.append_nil];exact leQ) ?_
 intro i hi
 by_cases hik:i<r.length
 ·obtain⟨m,hm⟩:∃n,r[i]?=some n:=⟨_,Am hik⟩
  have hmb:=k2 m (by simp[A8 hm])
  have hLm:=Qr true 4 m (by omega)
  have hLf:=Sz (r.take i) (fun n hn=>k2 n (by simp[List.mem_of_mem_take hn]))
  rw[Al] at hLf
  have hLa:(Cm true (40*x+y)++(r.take i).flatMap (Cm true)).length≤21000000:=by rw[Ap];omega
  have hsn:Cm true (40*x+y)++(r.take (i+1)).flatMap (Cm true)=Cm true (40*x+y)++(r.take i).flatMap (Cm true)++Cm true m:=by
   rw[F2 hm,List.flatMap_append,List.append_assoc];simp
  (repeat'((conv=>whnf);first|refine NIdx.tab (fun _=>rfl) hm ?_|(refine Ai (fun hc hcP=> ?_) (fun hc hcP=> ?_)<;>try(exfalso;omega))));(all_goals(conv=>whnf))
  refine Vo 3 3 200 (Cm true m).length 1 5 (Ak (Cm true m)) [1] 100 26 #[] C2 mixed rfl rfl rfl rfl Tryz.func144 rfl (by kernel_rfl) rfl rfl rfl rfl rfl (fun vs hv W fp0 z0=>oM m hmb rfl vs hv W fp0 z0) (fun gh=> ?_)
  (repeat'((conv=>whnf);first|(with_reducible refine NInt.i64 ?_)|(with_reducible refine NApp.bytes ?_)));(all_goals(conv=>whnf))
  refine⟨i+1,by omega,by omega,?_⟩
  rw[hsn]
  exact leQ
 ·obtain rfl:i=r.length:=by omega
  rw[List.take_length]
  (repeat'((conv=>whnf);(refine Ai (fun hc hcP=> ?_) (fun hc hcP=> ?_)<;>try(exfalso;omega))));(all_goals(conv=>whnf))
  all_goals exact zE
  all_goals rfl
theorem Vx (s:List UInt8) (hs:s.length≤4000000):Ab Tryz.prog 106 [sx s] (fun r=>r= .tup [.d (Af true (Bq s)),iv (Xq s)]):=by
 unfold Bq Xq
 cases h:Ex s with
 |some a=>exact fG s hs h
 |none=>exact fF s hs h
theorem Tt {n:Nat} (h:¬n<10):(Lib.decDigits n).length=(Lib.decDigits (n/10)).length+1:=by
 rw[Lib.decDigits,dif_neg h];simp
theorem aS (n:Nat):1≤(Lib.decDigits n).length:=by
 rw[Lib.decDigits];split<;>simp
theorem Qs:∀(n m:Nat),m≤n→(Lib.decDigits m).length≤(Lib.decDigits n).length:=by
 intro n
 induction n using Nat.strongRecOn with
 |_ n ih=>
  intro m h
  by_cases h1:m<10
  ·rw[Lib.decDigits_one h1];exact aS n
  ·have:=ih (n/10) (by omega) (m/10) (by omega)
   rw[Tt h1,Tt (n:=n) (by omega)];omega
theorem Vy:∀(n:Nat) (l:Bool),(Cm l n).length≤(Lib.decDigits n).length:=by
 intro n
 induction n using Nat.strongRecOn with
 |_ n ih=>
  intro l
  by_cases h:n<128
  ·rw[Dt l h];exact aS n
  ·have h1:=ih (n/128) (by omega) false
   have h2:=Qs (n/10) (n/128) (by omega)
   rw[Gb l h,Tt (by omega),Ap,List.length_singleton];omega
theorem fH:∀r:List Nat,r≠[]→(r.flatMap (Cm true)).length+(r.length-1)≤(Cd r).length
 |[],h=>absurd rfl h
 |[n],_=>by have:=Vy n true;simpa[Cd] using this
 |n::m::r,_=>by
  have h1:=Vy n true
  have h2:=fH (m::r) (by simp)
  rw[List.flatMap_cons,Cd]
  simp only[Ap,Ag] at h2⊢
  omega
theorem oN (s:List UInt8):(Bq s).length≤s.length:=by
 unfold Bq
 cases h:Ex s with
 |none=>simp
 |some a=>
  obtain⟨k1,k2,k3⟩:=Hu h
  obtain⟨x,y,r,rfl,x2,-⟩:=Ey k1
  rw[←k3]
  have hx:=aS x
  have hb:(Cm true (40*x+y)).length≤(Lib.decDigits y).length+1:=by
   by_cases h1:40*x+y<128
   ·rw[Dt _ h1,List.length_singleton];omega
   ·have h2:=Vy ((40*x+y)/128) false
    have h3:=Qs y ((40*x+y)/128) (by omega)
    rw[Gb _ h1,Ap,List.length_singleton];omega
  show(Cm true (40*x+y)++r.flatMap (Cm true)).length≤_
  rw[Cd,Ap,Ap,Ag]
  cases r with
  |nil=>rw[Cd];simp only[List.flatMap_nil,List.length_nil];omega
  |cons z q=>
   have h4:=fH (z::q) (by simp)
   rw[Cd,Ap,Ag]
   omega
theorem aT (n:Nat):(Lib.decDigits n).length≤(Lib.decDigits (n/10)).length+1:=by
 by_cases h:n<10
 ·rw[Lib.decDigits_one h];simp
 ·rw[Tt h];omega
theorem Vz:∀(n:Nat) (l:Bool),(Lib.decDigits n).length≤3*(Cm l n).length:=by
 intro n
 induction n using Nat.strongRecOn with
 |_ n ih=>
  intro l
  have h3:=aT n
  have h4:=aT (n/10)
  have h5:=aT (n/10/10)
  by_cases h:n<128
  ·rw[Dt l h,List.length_singleton]
   have:(Lib.decDigits (n/10/10)).length=1:=by rw[Lib.decDigits_one (by omega)];simp
   omega
  ·have h1:=ih (n/128) (by omega) false
   have h2:=Qs (n/128) (n/10/10/10) (by omega)
   rw[Gb l h,Ap,List.length_singleton];omega
theorem fI:∀r:List Nat,(Cd r).length≤4*(r.flatMap (Cm true)).length
 |[]=>by simp[Cd]
 |[n]=>by have:=Vz n true;simp only[Cd,List.flatMap_cons,List.flatMap_nil,List.append_nil];omega
 |n::m::r=>by
  have h1:=Vz n true
  have h2:=fI (m::r)
  have h3:1≤(Cm true n).length:=by
   cases h:Cm true n with
   |nil=>exact absurd h (FZ _ _)
   |cons _ _=>simp
  rw[List.flatMap_cons,Cd]
  simp only[Ap,Ag] at h2⊢
  omega
theorem V1 {s:List UInt8} (h:E6 s=true):s.length≤4*(Bq s).length+4:=by
 unfold E6 at h
 unfold Bq
 cases ha:Ex s with
 |none=>rw[ha] at h;cases h
 |some a=>
  obtain⟨k1,k2,k3⟩:=Hu ha
  obtain⟨x,y,r,rfl,x2,-⟩:=Ey k1
  rw[←k3]
  have hx:(Lib.decDigits x).length=1:=by rw[Lib.decDigits_one (by omega)];simp
  have hy:=Qs (40*x+y) y (by omega)
  have hb:=Vz (40*x+y) true
  have hr:=fI r
  show _≤4*(Cm true (40*x+y)++r.flatMap (Cm true)).length+4
  rw[Cd,Ap,Ap,Ag]
  cases r with
  |nil=>rw[Cd];simp only[List.flatMap_nil,List.length_nil];omega
  |cons z q=>
   rw[Cd,Ap,Ag]
   omega
theorem Ke {l:List UInt8} {lo hi:Int} {A:List UInt8→Prop} (a b:Nat) (r:List UInt8) (e:(l.drop a).take (b-a)=r) (k:A r) (h:lo=a∧hi=b∧a≤b∧b≤l.length:=by(repeat' apply And.intro)<;>first|omega|rfl|(simp only[Ag,List.length_nil,Ap,Al,Az] at*;omega)):NSlS l lo hi A:=⟨a,b,_,h.1,h.2.1,h.2.2.1,h.2.2.2,e,k⟩
theorem PL (k:Nat) (hk:k<10):(([48,49,50,51,52,53,54,55,56,57]:List UInt8).drop k).take (k+1-k)=[UInt8.ofNat (48+k)]:=by
 have h:∀k:Fin 10,(([48,49,50,51,52,53,54,55,56,57]:List UInt8).drop k.1).take (k.1+1-k.1)=[UInt8.ofNat (48+k.1)]:=by decide+kernel
 exact h ⟨k,hk⟩
theorem K5 (l:Bool):∀(k n:Nat),n<128^(k+1)→(Cm l n).length≤k+1:=by
 intro k
 induction k generalizing l with
 |zero=>intro n h;rw[Dt l (by simpa using h)];simp
 |succ k ih=>
  intro n h
  by_cases h2:n<128
  ·rw[Dt l h2];simp
  ·have:=ih false (n/128) (by rw[Nat.pow_succ] at h;omega)
   rw[Gb l h2,Ap,List.length_singleton];omega
theorem Mx (n:Nat):n≤4294967295→Ab Tryz.prog 224 [uv n] (fun r=>r=sx (Lib.decDigits n)):=by
 induction n using Nat.strongRecOn with
 |_ n ih=>
  intro hn
  have hd:=PL (n%10) (by omega)
  by_cases h:n<10
  ·have g:decide ((n:Int)<10)=true:=decide_eq_true (by omega)
   have e:Lib.decDigits n=[UInt8.ofNat (48+n%10)]:=by rw[Lib.decDigits,dif_pos h,Nat.mod_eq_of_lt h]
   rw[e]
   refine acQ 18 Tryz.func224 rfl rfl fun _ _ _=> ?_
   (repeat'((conv=>whnf);first|refine Ay asP ?_|(refine Ke (n%10) (n%10+1) _ hd ?_)|(with_reducible refine NInt.u64 ?_)|(with_reducible refine Bh ?_)|refine Au (by first|decide|omega|(simp only[Ag,List.length_nil];omega)) ?_|exact zE))
  ·have g:decide ((n:Int)<10)=false:=decide_eq_false (by omega)
   have e:Lib.decDigits n=Lib.decDigits (n/10)++[UInt8.ofNat (48+n%10)]:=by rw[Lib.decDigits,dif_neg h]
   have hI:=ih (n/10) (by omega) (by omega)
   have hl:=Ts (n/10) (by omega)
   rw[e]
   refine acQ 18 Tryz.func224 rfl rfl fun _ _ _=> ?_
   (repeat'((conv=>whnf);first|refine A0 asP ?_|(refine Ke (n%10) (n%10+1) _ hd ?_)|refine Aa hI rfl ?_|(with_reducible refine NInt.u64 ?_)|(with_reducible refine Bz ?_)|(with_reducible refine Bh ?_)|refine Au (by first|decide|omega|(simp only[Ag,List.length_nil];omega)) ?_|exact zE))
def Ov:Nat→List UInt8→Option Nat
 |a,[]=>some a
 |a,c::r=>if c.toNat<48∨c.toNat>57∨a>4294967295 then none else Ov (a*10+(c.toNat-48)) r
def aU (s:List UInt8):Nat:=(Ov 0 s).getD 0
def Xt (s:List UInt8):Bool:=match Ov 0 s with
 |some n=>decide (s≠[])&&(decide (n≤4294967295)&&decide (Lib.decDigits n=s))
 |none=>false
theorem Yx:∀(l:List UInt8) (a:Nat),(∀b∈l,48≤b.toNat∧b.toNat≤57)→Qk a l≤4294967295→Ov a l=some (Qk a l)
 |[],_,_,_=>by rw[Ov,Vd]
 |c::r,a,h1,h2=>by
  have hc:=h1 c (by simp)
  have hg:=aO r (a*10+(c.toNat-48))
  rw[K1] at h2⊢
  rw[Ov,if_neg (by omega)]
  exact Yx r _ (fun b hb=>h1 b (by simp[hb])) h2
theorem zY (s:List UInt8):Od s=if Xt s then some (aU s) else none:=by
 cases h:Od s with
 |some n=>
  obtain⟨h1,h2⟩:=Ny h
  have hs:=Yx (Lib.decDigits n) 0 (aN n) (by rw[Ql];exact h1)
  rw[Ql,h2] at hs
  have hne:s≠[]:=by rw[←h2];exact zJ n
  unfold Xt aU
  rw[hs]
  simp only[decide_eq_true hne,decide_eq_true h1,decide_eq_true h2,Bool.and_self,if_true,Option.getD_some]
 |none=>
  rw[if_neg]
  intro hb
  unfold Xt at hb
  split at hb
  ·rename_i n hn
   simp only[At,decide_eq_true_eq] at hb
   have:=eU hb.2.1
   rw[hb.2.2,h] at this
   cases this
  ·cases hb
theorem fJ (s:List UInt8) (hs:s.length≤4000000):Ab Tryz.prog 206 [sx s] (fun r=>r= .tup [uv (aU s),bv (Xt s)]):=by
 refine acQ 47 Tryz.func206 rfl rfl fun _ _ _=> ?_
 (all_goals(conv=>whnf))
 refine Ax (fun p:Nat×Nat=>p.1≤s.length∧p.2≤42949672959∧Ov 0 s=Ov p.2 (s.drop p.1)) (fun p=>s.length-p.1) (fun p=>⟨[(0,sx s),(4,uv p.2),(5,iv p.1)],[],[]⟩) (0,0) ⟨by simp,by simp,rfl⟩ leQ ?_
 rintro⟨i,n⟩ ⟨hi,hn,he⟩
 simp only at hi hn he
 by_cases hik:i<s.length
 ·obtain⟨c,hx⟩:∃p,s[i]?=some p:=⟨_,Am hik⟩
  have hcl:=c.toNat_lt
  rw[Qq hx,Ov] at he
  by_cases h1:c.toNat<48∨c.toNat>57∨n>4294967295
  ·rw[if_pos h1] at he
   rw[show aU s=0 by unfold aU;rw[he];rfl,show Xt s=false by unfold Xt;rw[he]]
   by_cases d1:c.toNat<48
   ·have g1:decide ((c.toNat:Int)<48)=true:=decide_eq_true (by omega)
    (repeat'((conv=>whnf);first|refine Ac ?_|refine Ay asP ?_|refine Bc hx ?_|(refine Ai (fun hc hcP=> ?_) (fun hc hcP=> ?_)<;>try(exfalso;omega))|exact zE))
   ·have g1:decide ((c.toNat:Int)<48)=false:=decide_eq_false (by omega)
    by_cases d2:c.toNat>57
    ·have g2:decide ((c.toNat:Int)>57)=true:=decide_eq_true (by omega)
     (repeat'((conv=>whnf);first|refine Ac ?_|refine Ae ?_|refine Ay asP ?_|refine A0 asP ?_|refine Bc hx ?_|(refine Ai (fun hc hcP=> ?_) (fun hc hcP=> ?_)<;>try(exfalso;omega))|exact zE))
    ·have g2:decide ((c.toNat:Int)>57)=false:=decide_eq_false (by omega)
     have g3:decide ((n:Int)>4294967295)=true:=decide_eq_true (by omega)
     (repeat'((conv=>whnf);first|refine Ae ?_|refine Ay asP ?_|refine A0 asP ?_|refine Bc hx ?_|(refine Ai (fun hc hcP=> ?_) (fun hc hcP=> ?_)<;>try(exfalso;omega))|exact zE))
  ·rw[if_neg h1] at he
   have g1:decide ((c.toNat:Int)<48)=false:=decide_eq_false (by omega)
   have g2:decide ((c.toNat:Int)>57)=false:=decide_eq_false (by omega)
   have g3:decide ((n:Int)>4294967295)=false:=decide_eq_false (by omega)
   have e1:∀z:Int,z=((n*10+(c.toNat-48):Nat):Int)→IntKind.u64.wrap z=((n*10+(c.toNat-48):Nat):Int):=fun z hz=>by rw[hz,IntWalk.u64_in _ (by omega)]
   (repeat'((conv=>whnf);first|refine Ae ?_|refine A0 asP ?_|refine Bc hx ?_|refine NInt.as (((n*10+(c.toNat-48):Nat):Int)) (e1 _ (by omega)) ?_|(with_reducible refine NInt.i64 ?_)|(with_reducible refine NInt.u8 ?_)|(with_reducible refine NInt.u64 ?_)|(refine Ai (fun hc hcP=> ?_) (fun hc hcP=> ?_)<;>try(exfalso;omega))));(all_goals(conv=>whnf))
   refine⟨(i+1,n*10+(c.toNat-48)),⟨by show i+1≤_;omega,by show n*10+(c.toNat-48)≤_;omega,he⟩,by show s.length-(i+1)<s.length-i;omega,?_⟩
   exact leQ
 ·obtain rfl:i=s.length:=by omega
  rw[List.drop_length,Ov] at he
  rw[show aU s=n by unfold aU;rw[he];rfl,show Xt s=(decide (s≠[])&&(decide (n≤4294967295)&&decide (Lib.decDigits n=s))) by unfold Xt;rw[he]]
  have z0:(s !=[])=decide (s≠[]):=by cases s<;>rfl
  by_cases d1:s=[]
  ·have g1:(s !=[])=false:=by rw[d1];rfl
   rw[show decide (s≠[])=false from decide_eq_false (by simp[d1])]
   (repeat'((conv=>whnf);first|refine Ae ?_|refine A0 asP ?_|(refine Ai (fun hc hcP=> ?_) (fun hc hcP=> ?_)<;>try(exfalso;omega))|exact zE))
  ·have g1:(s !=[])=true:=by rw[z0];exact decide_eq_true d1
   rw[show decide (s≠[])=true from decide_eq_true d1,Bool.true_and]
   by_cases d2:n≤4294967295
   ·have g2:decide ((n:Int)≤4294967295)=true:=decide_eq_true (by omega)
    rw[decide_eq_true d2,Bool.true_and,←zW]
    have hD:=Mx n d2
    (repeat'((conv=>whnf);first|refine Ac ?_|refine Ay asP ?_|refine Aa hD rfl ?_|(refine Ai (fun hc hcP=> ?_) (fun hc hcP=> ?_)<;>try(exfalso;omega))|exact zE))
   ·have g2:decide ((n:Int)≤4294967295)=false:=decide_eq_false (by omega)
    rw[decide_eq_false d2,Bool.false_and]
    (repeat'((conv=>whnf);first|refine Ac ?_|refine Ae ?_|refine Ay asP ?_|refine A0 asP ?_|(refine Ai (fun hc hcP=> ?_) (fun hc hcP=> ?_)<;>try(exfalso;omega))|exact zE))
theorem V2 (a:List Nat) (ha:a.length≤1000000000):Ab Tryz.prog 207 [.d (Vs false a)] (fun r=>r=bv (C0 a)):=by
 match a,ha with
 |[],_=>
  refine acQ 34 Tryz.func207 rfl rfl fun _ _ _=> ?_
  (repeat'((conv=>whnf);refine Ac ?_));(all_goals(conv=>whnf))
  all_goals exact zE
 |[x],_=>
  refine acQ 34 Tryz.func207 rfl rfl fun _ _ _=> ?_
  (repeat'((conv=>whnf);refine Ac ?_));(all_goals(conv=>whnf))
  all_goals exact zE
 |x::y::r,ha=>
  have h0:(x::y::r)[0]?=some x:=rfl
  have h1:(x::y::r)[1]?=some y:=rfl
  simp only[Ag] at ha
  by_cases c1:x≤2
  ·have g1:decide ((x:Int)>2)=false:=decide_eq_false (by omega)
   by_cases c2:x<2
   ·have g2:decide ((x:Int)<2)=true:=decide_eq_true (by omega)
    have g3:((x:Int)==2)=false:=by rw[beq_eq_false_iff_ne];omega
    have e:C0 (x::y::r)=decide ((y:Int)<40):=by
     rw[C0,if_pos c2,decide_eq_true c1,Bool.true_and,decide_eq_decide];omega
    rw[e]
    cases g4:decide ((y:Int)<40)
    ·refine acQ 34 Tryz.func207 rfl rfl fun _ _ _=> ?_
     (repeat'((conv=>whnf);first|refine Ac ?_|refine Ae ?_|refine Ay asP ?_|refine A0 asP ?_|refine NIdx.tab (fun _=>rfl) h0 ?_|refine NIdx.tab (fun _=>rfl) h1 ?_|exact zE))
    ·refine acQ 34 Tryz.func207 rfl rfl fun _ _ _=> ?_
     (repeat'((conv=>whnf);first|refine Ac ?_|refine Ae ?_|refine Ay asP ?_|refine A0 asP ?_|refine NIdx.tab (fun _=>rfl) h0 ?_|refine NIdx.tab (fun _=>rfl) h1 ?_|exact zE))
   ·have g2:decide ((x:Int)<2)=false:=decide_eq_false (by omega)
    have g3:((x:Int)==2)=true:=by rw[beq_iff_eq];omega
    have e:C0 (x::y::r)=decide ((y:Int)≤4294967215):=by
     rw[C0,if_neg c2,decide_eq_true c1,Bool.true_and,decide_eq_decide];omega
    rw[e]
    refine acQ 34 Tryz.func207 rfl rfl fun _ _ _=> ?_
    (repeat'((conv=>whnf);first|refine Ac ?_|refine Ae ?_|refine Ay asP ?_|refine A0 asP ?_|refine NIdx.tab (fun _=>rfl) h0 ?_|refine NIdx.tab (fun _=>rfl) h1 ?_|exact zE))
  ·have g1:decide ((x:Int)>2)=true:=decide_eq_true (by omega)
   have e:C0 (x::y::r)=false:=by rw[C0,decide_eq_false c1];rfl
   rw[e]
   refine acQ 34 Tryz.func207 rfl rfl fun _ _ _=> ?_
   (repeat'((conv=>whnf);first|refine Ae ?_|refine Ay asP ?_|refine NIdx.tab (fun _=>rfl) h0 ?_|exact zE))
theorem V3 {a:List Nat} {o:Option (List Nat)} {n:Nat}:G9 a (match some n,o with|some n,some l=>some (n::l)|_,_=>none)=G9 (a++[n]) o:=by
 cases o with
 |none=>rfl
 |some l=>show some (a++n::l)=some (a++[n]++l);simp
theorem Yy (o:Option (List Nat)):G9 [] o=o:=by cases o<;>rfl
theorem zZ {s:List UInt8} {i frm:Nat} {c:UInt8} (h:s[i]?=some c) (hf:frm≤i):(s.drop frm).take (i+1-frm)=(s.drop frm).take (i-frm)++[c]:=by
 have:(s.drop frm)[i-frm]?=some c:=by rw[List.getElem?_drop,show frm+(i-frm)=i by omega];exact h
 rw[show i+1-frm=(i-frm)+1 by omega,F2 this]
def My (s:List UInt8) (frm i:Nat):List (List UInt8):=if i≤s.length then Ot ((s.drop frm).take (i-frm)) (s.drop i) else []
theorem Tu {p:Prop} (h:p:=by first|rfl|(simp only[AV.gives,AV.ren,AV.give,D.un,D.uns,An,Ao,List.nil_append,List.append_nil,List.cons_append,Tm,K3,Tn,Bx,To,Tp,Tq];first|done|rfl)):p:=h
theorem Rz (s:List UInt8) (hs:s.length≤3500000):Ab Tryz.prog 174 [sx s] (fun r=>r=Ou s):=by
 unfold Ou Ex
 have hd0:Dy (Fj s)=G9 [] (Dy (My s 0 0)):=by
  rw[Yy];unfold My;rw[if_pos (by omega)]
  show _=Dy (Ot [] s)
  rw[tG]
 generalize Dy (Fj s)=q at hd0⊢
 refine acQ 46 Tryz.func174 rfl rfl fun _ _ _=> ?_
 (all_goals(conv=>whnf))
 refine A5 [.s 4 1 212] (fun p:Nat×Nat×List Nat=>p.1≤s.length+1∧p.2.1≤p.1∧p.2.2.length≤p.1∧q=G9 p.2.2 (Dy (My s p.2.1 p.1))) (fun p=>s.length+1-p.1) (fun p=>⟨[(0,sx s),(4,Bx 4 1 212 Qo p.2.2),(5,iv p.2.1),(6,iv p.1)],[],[(4,(p.2.2.length,1,212))]⟩) (0,0,[]) ⟨by simp,by simp,by simp,hd0⟩ leQ ?_
 rintro⟨i,frm,ns⟩ ⟨hi,hfi,hnl,he⟩
 simp only at hi hfi hnl he
 by_cases hik:i≤s.length
 ·have gi:decide ((i:Int)≤s.length)=true:=decide_eq_true (by omega)
  have hN:=fJ ((s.drop frm).take (i-frm)) (by rw[Al,Az];omega)
  have hA:=zY ((s.drop frm).take (i-frm))
  unfold My at he
  rw[if_pos hik] at he
  by_cases hil:i<s.length
  ·have gl:decide ((i:Int)<s.length)=true:=decide_eq_true (by omega)
   obtain⟨c,hx⟩:∃p,s[i]?=some p:=⟨_,Am hil⟩
   rw[Qq hx,Ot] at he
   by_cases hd:c=46
   ·subst hd
    have gd:(((46:UInt8).toNat:Int) !=46)=false:=by decide
    rw[if_pos rfl,Dy,hA] at he
    cases hb:Xt ((s.drop frm).take (i-frm))
    ·rw[hb] at he hN
     have he':q=none:=by rw[he];rfl
     subst he'
     (repeat'((conv=>whnf);first|refine Ac ?_|refine Ae ?_|refine Ay asP ?_|refine Bc hx ?_|refine NSlS.bytes (frm) (i) ?_|refine Aa hN rfl ?_|exact zE))
    ·rw[hb] at he hN
     generalize hn:aU ((s.drop frm).take (i-frm))=n at he hN
     have hn2:n≤4294967295:=by rw[hb,hn] at hA;exact(Ny hA).1
     rw[if_pos rfl] at he;replace he:=he.trans V3
     (repeat'((conv=>whnf);first|refine Ac ?_|refine Ae ?_|refine Ay asP ?_|refine Bc hx ?_|refine NSlS.bytes (frm) (i) ?_|refine Aa hN rfl ?_|refine A2 Qo n ?_|(with_reducible refine NInt.i64 ?_)|(with_reducible refine NInt.u32 ?_)));(all_goals(conv=>whnf))
     refine⟨(i+1,i+1,ns++[n]),⟨by show i+1≤_;omega,Nat.le_refl _,by simp;omega,?_⟩,by show s.length+1-(i+1)<s.length+1-i;omega,?_⟩
     ·show q=G9 (ns++[n]) (Dy (My s (i+1) (i+1)))
      unfold My
      rw[if_pos (by omega),Nat.sub_self,List.take_zero];exact he
     ·exact leQ
   ·have gd:((c.toNat:Int) !=46)=true:=by
     rw[bne_iff_ne];intro h;exact hd (UInt8.toNat_inj.1 (by show c.toNat=46;omega))
    rw[if_neg hd] at he
    (repeat'((conv=>whnf);first|refine Ac ?_|refine Ay asP ?_|refine Bc hx ?_|(with_reducible refine NInt.i64 ?_)));(all_goals(conv=>whnf))
    refine⟨(i+1,frm,ns),⟨by show i+1≤_;omega,by show frm≤i+1;omega,by show ns.length≤i+1;omega,?_⟩,by show s.length+1-(i+1)<s.length+1-i;omega,?_⟩
    ·show q=G9 ns (Dy (My s frm (i+1)))
     unfold My
     rw[if_pos (by omega),zZ hx hfi];exact he
    ·exact leQ
  ·have hie:i=s.length:=by omega
   have gl:decide ((i:Int)<s.length)=false:=decide_eq_false (by omega)
   rw[show s.drop i=[] by rw[hie,List.drop_length],Ot,Dy,hA] at he
   cases hb:Xt ((s.drop frm).take (i-frm))
   ·rw[hb] at he hN
    have he':q=none:=by rw[he];rfl
    subst he'
    (repeat'((conv=>whnf);first|refine Ac ?_|refine Ae ?_|refine Ay asP ?_|refine A0 asP ?_|refine NSlS.bytes (frm) (i) ?_|refine Aa hN rfl ?_|exact zE))
   ·rw[hb] at he hN
    generalize hn:aU ((s.drop frm).take (i-frm))=n at he hN
    have hn2:n≤4294967295:=by rw[hb,hn] at hA;exact(Ny hA).1
    rw[if_pos rfl] at he;replace he:=he.trans (V3 (a:=ns) (n:=n) (o:=Dy []))
    (repeat'((conv=>whnf);first|refine Ae ?_|refine Ay asP ?_|refine A0 asP ?_|refine NSlS.bytes (frm) (i) ?_|refine Aa hN rfl ?_|refine A2 Qo n ?_|(with_reducible refine NInt.i64 ?_)|(with_reducible refine NInt.u32 ?_)));(all_goals(conv=>whnf))
    refine⟨(i+1,i+1,ns++[n]),⟨by show i+1≤_;omega,Nat.le_refl _,by simp;omega,?_⟩,by show s.length+1-(i+1)<s.length+1-i;omega,?_⟩
    ·show q=G9 (ns++[n]) (Dy (My s (i+1) (i+1)))
     unfold My
     rw[if_neg (by omega)];exact he
    ·exact leQ
 ·have gi:decide ((i:Int)≤s.length)=false:=decide_eq_false (by omega)
  unfold My at he
  rw[if_neg hik,Dy] at he
  have he':q=some ns:=by rw[he];show some (ns++[])=_;rw[List.append_nil]
  subst he'
  have hR:=V2 ns (by omega)
  cases hr:C0 ns
  ·rw[hr] at hR
   simp only[hr]
   (repeat'((conv=>whnf);first|refine Ac ?_|refine A0 asP ?_|refine Aa hR Tu ?_|exact zE))
  ·rw[hr] at hR
   simp only[hr]
   (repeat'((conv=>whnf);first|refine Ae ?_|refine A0 asP ?_|refine Aa hR Tu ?_|exact zE))
theorem Kf (s:List UInt8) (hs:s.length≤3500000):Ab Tryz.prog 167 [sx s] (fun r=>r=bv (E6 s)):=by
 have hA:=Rz s hs
 unfold Ou at hA
 unfold E6
 generalize Ex s=q at hA⊢
 cases q with
 |none=>
  refine acQ 12 Tryz.func167 rfl rfl fun _ _ _=> ?_
  (repeat'((conv=>whnf);refine Aa hA rfl ?_));(all_goals(conv=>whnf))
  all_goals exact zE
 |some a=>
  refine acQ 12 Tryz.func167 rfl rfl fun _ _ _=> ?_
  (repeat'((conv=>whnf);refine Aa hA rfl ?_));(all_goals(conv=>whnf))
  all_goals exact zE
theorem V4:∀(a:List Nat) (n:Nat),a≠[]→Cd (a++[n])=Cd a++46::Lib.decDigits n
 |[],_,h=>absurd rfl h
 |[m],n,_=>rfl
 |m::k::r,n,_=>by
  have ih:=V4 (k::r) n (by simp)
  rw[List.cons_append,List.cons_append,Cd,←List.cons_append,ih,Cd];simp
theorem tQ (a:List Nat) (hb:∀n∈a,n≤4294967295) (ha:a.length≤4000000):Ab Tryz.prog 201 [.d (Vs false a)] (fun r=>r=if C0 a then .tup [sx (Cd a),iv 0] else .tup [sx [],iv 8]):=by
 have hR:=V2 a (by omega)
 cases hr:C0 a
 ·rw[hr] at hR
  rw[if_neg (by simp)]
  refine acQ 30 Tryz.func201 rfl rfl fun _ _ _=> ?_
  (repeat'((conv=>whnf);first|refine Ac ?_|refine Aa hR Tu ?_|exact zE))
 ·rw[hr] at hR
  rw[if_pos rfl]
  obtain⟨x,y,r,hxy,-⟩:=Ey hr
  have h0:a[0]?=some x:=by rw[hxy];rfl
  have hal:1≤a.length:=by rw[hxy];simp
  have hx2:=hb x (A8 h0)
  have hD:=Mx x hx2
  have ht1:Cd (a.take 1)=Lib.decDigits x:=by rw[hxy];rfl
  rw[←ht1] at hD
  refine acQ 30 Tryz.func201 rfl rfl fun _ _ _=> ?_
  (repeat'((conv=>whnf);first|refine Ae ?_|refine Aa hR Tu ?_|refine NIdx.tab (fun _=>rfl) h0 ?_|refine Aa hD rfl ?_|(with_reducible refine NInt.u64 ?_)));(all_goals(conv=>whnf))
  refine Ax (fun i:Nat=>1≤i∧i≤a.length) (fun i=>a.length-i) (fun i=>⟨[(0,.d (Vs false a)),(4,sx (Cd (a.take i))),(5,iv i)],[],[]⟩) 1 ⟨by omega,hal⟩ leQ ?_
  rintro i ⟨hi1,hi⟩
  by_cases hik:i<a.length
  ·obtain⟨n,hn⟩:∃n,a[i]?=some n:=⟨_,Am hik⟩
   have hn2:=hb n (A8 hn)
   have hF:=Mx n hn2
   have hl1:=K4 (a.take i) (fun m hm=>hb m (List.mem_of_mem_take hm))
   have hl2:=Ts n hn2
   rw[Al] at hl1
   have hl3:(Cd (a.take i)++[46]).length≤100000000:=by rw[Ap,List.length_singleton];omega
   have hsn:Cd (a.take (i+1))=Cd (a.take i)++[46]++Lib.decDigits n:=by
    rw[F2 hn,V4 _ _ (by intro h;have:=congrArg List.length h;rw[Al,List.length_nil] at this;omega)];simp
   (repeat'((conv=>whnf);first|refine NIdx.tab (fun _=>rfl) hn ?_|refine Aa hF rfl ?_|(with_reducible refine NInt.i64 ?_)|(with_reducible refine NInt.u64 ?_)|refine Au (by first|decide|omega|(simp only[Ag,List.length_nil];omega)) ?_|(refine Ai (fun hc hcP=> ?_) (fun hc hcP=> ?_)<;>try(exfalso;omega))));(all_goals(conv=>whnf))
   refine⟨i+1,⟨by omega,by omega⟩,by omega,?_⟩
   rw[hsn]
   exact leQ
  ·obtain rfl:i=a.length:=by omega
   rw[List.take_length]
   (repeat'((conv=>whnf);(refine Ai (fun hc hcP=> ?_) (fun hc hcP=> ?_)<;>try(exfalso;omega))));(all_goals(conv=>whnf))
   all_goals exact zE
theorem Yz (n:Nat):n≤4294967295→∀l:Bool,Ab Tryz.prog 175 [uv n,bv l] (fun r=>r=Bb 0 5 (Cm l n)):=by
 induction n using Nat.strongRecOn with
 |_ n ih=>
  intro hn l
  have hx:(n%128+if l=true then 0 else 128)<256:=by cases l<;>simp<;>omega
  by_cases h:n<128
  ·have g:decide ((n:Int)<128)=true:=decide_eq_true (by omega)
   rw[Dt l h]
   cases l
   ·refine acQ 23 Tryz.func175 rfl rfl fun _ _ _=> ?_
    (repeat'((conv=>whnf);first|refine Ac ?_|refine Ay asP ?_|refine NInt.as (((UInt8.ofNat (n%128+128)).toNat:Int)) ((by rw[UInt8.toNat_ofNat',IntWalk.u8_in _ (by omega)];omega)) ?_|(with_reducible refine NInt.u8 ?_)|(with_reducible refine Bh ?_)|refine Au (by first|decide|omega|(simp only[Ag,List.length_nil];omega)) ?_|exact zE))
    all_goals rfl
   ·refine acQ 23 Tryz.func175 rfl rfl fun _ _ _=> ?_
    (repeat'((conv=>whnf);first|refine Ae ?_|refine Ay asP ?_|refine NInt.as (((UInt8.ofNat (n%128+0)).toNat:Int)) ((by rw[UInt8.toNat_ofNat',IntWalk.u8_in _ (by omega)];omega)) ?_|(with_reducible refine Bh ?_)|refine Au (by first|decide|omega|(simp only[Ag,List.length_nil];omega)) ?_|exact zE))
    all_goals rfl
  ·have g:decide ((n:Int)<128)=false:=decide_eq_false (by omega)
   have hI:=ih (n/128) (by omega) (by omega) false
   have hL:=K5 false 4 (n/128) (by omega)
   rw[Gb l h]
   cases l
   ·refine acQ 23 Tryz.func175 rfl rfl fun _ _ _=> ?_
    (repeat'((conv=>whnf);first|refine Ac ?_|refine A0 asP ?_|refine NInt.as (((UInt8.ofNat (n%128+128)).toNat:Int)) ((by rw[UInt8.toNat_ofNat',IntWalk.u8_in _ (by omega)];omega)) ?_|refine Aa hI rfl ?_|refine Is (_) ?_|(with_reducible refine NInt.u8 ?_)|(with_reducible refine Bz ?_)|(with_reducible refine Bh ?_)|refine Au (by first|decide|omega|(simp only[Ag,List.length_nil];omega)) ?_|exact zE))
    all_goals rfl
   ·refine acQ 23 Tryz.func175 rfl rfl fun _ _ _=> ?_
    (repeat'((conv=>whnf);first|refine Ae ?_|refine A0 asP ?_|refine NInt.as (((UInt8.ofNat (n%128+0)).toNat:Int)) ((by rw[UInt8.toNat_ofNat',IntWalk.u8_in _ (by omega)];omega)) ?_|refine Aa hI rfl ?_|refine Is (_) ?_|(with_reducible refine Bz ?_)|(with_reducible refine Bh ?_)|refine Au (by first|decide|omega|(simp only[Ag,List.length_nil];omega)) ?_|exact zE))
    all_goals rfl
theorem Ik:∀(l:List Nat),(∀n∈l,n≤4294967295)→(l.flatMap (Cm true)).length≤5*l.length
 |[],_=>by simp
 |n::r,h=>by
  have h1:=K5 true 4 n (by have:=h n (by simp);omega)
  have h2:=Ik r (fun m hm=>h m (by simp[hm]))
  rw[List.flatMap_cons,Ap,Ag];omega
theorem V5 {s:List UInt8} {a:List Nat} (h:Ex s=some a):a.length≤s.length+1:=by
 unfold Ex at h
 split at h
 ·rename_i a' h1
  split at h
  ·cases h
   rw[Nz h1];exact Qn s
  ·cases h
 ·cases h
theorem aV (s:List UInt8) (hs:s.length≤3500000) {a:List Nat} (h:Ex s=some a):Ab Tryz.prog 134 [sx s] (fun r=>r= .tup [.d (Af true (Mt a)),iv 0]):=by
 have hA:=Rz s hs
 unfold Ou at hA
 rw[h] at hA
 obtain⟨k1,k2,k3⟩:=Hu h
 have hal:=V5 h
 obtain⟨x,y,r,rfl,x2,xy,y2⟩:=Ey k1
 have h0:(x::y::r)[0]?=some x:=rfl
 have h1:(x::y::r)[1]?=some y:=rfl
 have hxy:40*x+y≤4294967295:=by
  by_cases hx:x<2
  ·have:=xy hx;omega
  ·omega
 have e1:∀z:Int,z=((40*x+y:Nat):Int)→IntKind.u64.wrap z=((40*x+y:Nat):Int):=fun z hz=>by rw[hz,IntWalk.u64_in _ (by omega)]
 have hL:=K5 true 4 (40*x+y) (by omega)
 simp only[Ag] at hal
 have hB:=Yz (40*x+y) hxy true
 refine acQ 41 Tryz.func134 rfl rfl fun _ _ _=> ?_
 (repeat'((conv=>whnf);first|refine Ae ?_|refine Aa hA rfl ?_|refine NIdx.tab (fun _=>rfl) h0 ?_|refine NIdx.tab (fun _=>rfl) h1 ?_|refine NInt.as (((40*x+y:Nat):Int)) (e1 _ (by omega)) ?_|refine Aa hB rfl ?_|(with_reducible refine NInt.u64 ?_)|refine zF ?_));(all_goals(conv=>whnf))
 refine Ax (fun i:Nat=>2≤i∧i≤r.length+2) (fun i=>r.length+2-i) (fun i=>⟨[(4,.d (Vs true (x::y::r))),(6,Bb 25 5 (Cm true (40*x+y)++(r.take (i-2)).flatMap (Cm true))),(7,iv i)],[],[(25,((Cm true (40*x+y)++(r.take (i-2)).flatMap (Cm true)).length,1,5))]⟩) 2 ⟨by omega,by omega⟩ (by rw[Nat.sub_self,List.take_zero,List.flatMap_nil,List.append_nil];exact leQ) ?_
 rintro i ⟨hi2,hi⟩
 obtain⟨j,rfl⟩:∃j,i=j+2:=⟨i-2,by omega⟩
 rw[Nat.add_sub_cancel]
 by_cases hik:j<r.length
 ·obtain⟨m,hm⟩:∃n,r[j]?=some n:=⟨_,Am hik⟩
  have hm2:(x::y::r)[j+2]?=some m:=hm
  have hmb:=k2 m (by simp[A8 hm])
  have hLm:=K5 true 4 m (by omega)
  have hLf:=Ik (r.take j) (fun n hn=>k2 n (by simp[List.mem_of_mem_take hn]))
  rw[Al] at hLf
  have hLa:(Cm true (40*x+y)++(r.take j).flatMap (Cm true)).length≤21000000:=by rw[Ap];omega
  have hsn:Cm true (40*x+y)++(r.take (j+1)).flatMap (Cm true)=Cm true (40*x+y)++(r.take j).flatMap (Cm true)++Cm true m:=by
   rw[F2 hm,List.flatMap_append,List.append_assoc];simp
  have hBm:=Yz m hmb true
  have gi:decide (((j+2:Nat):Int)<((x::y::r).length:Nat))=true:=decide_eq_true (by simp only[Ag];omega)
  (repeat'((conv=>whnf);first|refine Ay asP ?_|refine NIdx.tab (fun _=>rfl) hm2 ?_|refine Aa hBm rfl ?_|(with_reducible refine NInt.i64 ?_)|(with_reducible refine NInt.u64 ?_)|(with_reducible refine NApp.bytes ?_)));(all_goals(conv=>whnf))
  refine⟨j+1+2,⟨by omega,by omega⟩,by omega,?_⟩
  rw[Nat.add_sub_cancel,hsn]
  exact leQ
 ·obtain rfl:j=r.length:=by omega
  have gi:decide (((r.length+2:Nat):Int)<((x::y::r).length:Nat))=false:=decide_eq_false (by simp only[Ag];omega)
  rw[List.take_length]
  (repeat'((conv=>whnf);refine A0 asP ?_));(all_goals(conv=>whnf))
  all_goals exact zE
  all_goals rfl
theorem aW (s:List UInt8) (hs:s.length≤3500000) (h:Ex s=none):Ab Tryz.prog 134 [sx s] (fun r=>r= .tup [.d (Af true []),iv 8]):=by
 have hA:=Rz s hs
 unfold Ou at hA
 rw[h] at hA
 refine acQ 41 Tryz.func134 rfl rfl fun _ _ _=> ?_
 (repeat'((conv=>whnf);first|refine Ac ?_|refine Aa hA rfl ?_|exact zE))
theorem Mz (s:List UInt8) (hs:s.length≤3500000):Ab Tryz.prog 134 [sx s] (fun r=>r= .tup [.d (Af true (Bq s)),iv (Xq s)]):=by
 unfold Bq Xq
 cases h:Ex s with
 |some a=>exact aV s hs h
 |none=>exact aW s hs h
theorem Cw (f:Bool) (g:Bool) (a b:List UInt8) (_:a.length≤1000000000) (_:b.length≤1000000000):Ab Tryz.prog 7 [.d (Af f a),.d (Af g b)] (fun r=>r=bv (a==b)):=by
 refine acQ 10 Tryz.func7 rfl rfl fun _ _ _=> ?_
 (repeat'((conv=>whnf);(with_reducible refine E4 ?_)));(all_goals(conv=>whnf))
 all_goals exact zE
theorem lH {c:List UInt8} {i:Nat} {x:UInt8} {n:Nat} (hx:c[i]?=some x):G7 n (c.drop i)=if n*128+x.toNat%128>4294967295 then none else if x.toNat<128 then(match G7 0 (c.drop (i+1)) with
 |some l=>some ((n*128+x.toNat%128)::l)
 |none=>none) else G7 (n*128+x.toNat%128) (c.drop (i+1)):=by
 rw[Qq hx,G7]<;>rfl
theorem Y0 {c:List UInt8} (h:G7 0 c=none∨G7 0 c=some []):Oe c= .tup [sx [],iv 6]:=by
 have:Mv c=none:=by rw[eW];rcases h with h|h<;>rw[h]
 unfold Oe odT odC
 rw[this];rfl
theorem J0 {p:Prop} (h:p:=by first|rfl|(simp only[AV.gives,AV.ren,AV.give,D.un,D.uns,An,Ao,List.nil_append,List.append_nil,List.cons_append,Tm,K3,Tn,Bx,To,Tp,Tq];first|done|rfl)):p:=h
theorem fK (c:List UInt8) (hl:c.length≤30000):Ab Tryz.prog 161 [.d (Af false c)] (fun r=>r=Oe c):=by
 refine acQ 94 Tryz.func161 rfl rfl fun _ _ _=> ?_
 (all_goals(conv=>whnf))
 refine A5 [.s 4 1 187] (fun p:Nat×List Nat×Nat=>p.1≤c.length∧p.2.1.length≤p.1∧p.2.2≤4294967295∧G7 0 c=G9 p.2.1 (G7 p.2.2 (c.drop p.1))) (fun p=>c.length-p.1) (fun p=>⟨[(0,.d (Af false c)),(4,Bx 4 1 187 Xs p.2.1),(5,uv p.2.2),(6,iv p.1)],[],[(4,(p.2.1.length,1,187))]⟩) (0,[],0) ⟨by simp,by simp,by simp,(Yy _).symm⟩ leQ ?_
 rintro⟨i,ns,n⟩ ⟨hi,hnl,hn,he⟩
 simp only at hi hnl hn he
 by_cases hik:i<c.length
 ·obtain⟨x,hx⟩:∃x,c[i]?=some x:=⟨_,Am hik⟩
  have hxl:=x.toNat_lt
  rw[lH hx] at he
  have e1:∀z:Int,z=((n*128+x.toNat%128:Nat):Int)→IntKind.u64.wrap z=((n*128+x.toNat%128:Nat):Int):=fun z hz=>by rw[hz,IntWalk.u64_in _ (by omega)]
  by_cases c2:n*128+x.toNat%128>4294967295
  ·rw[if_pos c2] at he
   rw[Y0 (.inl he)]
   have g2:decide (((n*128+x.toNat%128:Nat):Int)>4294967295)=true:=decide_eq_true (by omega)
   (repeat'((conv=>whnf);first|refine Ay asP ?_|refine NIdx.bytes hx ?_|(with_reducible refine NInt.u64 ?_)|(with_reducible refine Bh ?_)|refine Au (by first|decide|omega|(simp only[Ag,List.length_nil];omega)) ?_|(refine Ai (fun hc hcP=> ?_) (fun hc hcP=> ?_)<;>try(exfalso;omega))|exact zE))
  ·rw[if_neg c2] at he
   have g2:decide (((n*128+x.toNat%128:Nat):Int)>4294967295)=false:=decide_eq_false (by omega)
   by_cases c3:x.toNat<128
   ·rw[if_pos c3] at he
    replace he:=he.trans (Vw ns (n*128+x.toNat%128) (G7 0 (c.drop (i+1))))
    have g3:decide ((x.toNat:Int)<128)=true:=decide_eq_true (by omega)
    (repeat'((conv=>whnf);first|refine Ay asP ?_|refine A0 asP ?_|refine NIdx.bytes hx ?_|refine A2 Xs (n*128+x.toNat%128) ?_|(with_reducible refine NInt.i64 ?_)|(with_reducible refine NInt.u64 ?_)|(with_reducible refine Bh ?_)|refine Au (by first|decide|omega|(simp only[Ag,List.length_nil];omega)) ?_|(refine Ai (fun hc hcP=> ?_) (fun hc hcP=> ?_)<;>try(exfalso;omega))));(all_goals(conv=>whnf))
    refine⟨(i+1,ns++[n*128+x.toNat%128],0),⟨by show i+1≤_;omega,by simp;omega,by simp,he⟩,by show c.length-(i+1)<c.length-i;omega,?_⟩
    exact leQ
   ·rw[if_neg c3] at he
    have g3:decide ((x.toNat:Int)<128)=false:=decide_eq_false (by omega)
    (repeat'((conv=>whnf);first|refine A0 asP ?_|refine NIdx.bytes hx ?_|(with_reducible refine NInt.i64 ?_)|(with_reducible refine NInt.u64 ?_)|(with_reducible refine Bh ?_)|refine Au (by first|decide|omega|(simp only[Ag,List.length_nil];omega)) ?_|(refine Ai (fun hc hcP=> ?_) (fun hc hcP=> ?_)<;>try(exfalso;omega))));(all_goals(conv=>whnf))
    refine⟨(i+1,ns,n*128+x.toNat%128),⟨by show i+1≤_;omega,by show ns.length≤i+1;omega,by show n*128+x.toNat%128≤_;omega,he⟩,by show c.length-(i+1)<c.length-i;omega,?_⟩
    exact leQ
 ·obtain rfl:i=c.length:=by omega
  rw[List.drop_length,G7] at he
  simp only[G9,List.append_nil] at he
  cases ns with
  |nil=>
   rw[Y0 (.inr he)]
   (repeat'((conv=>whnf);first|refine Ac ?_|(refine Ai (fun hc hcP=> ?_) (fun hc hcP=> ?_)<;>try(exfalso;omega))|exact zE))
  |cons n0 r=>
   have hD:=eW c
   rw[he] at hD
   have k2:=Qm c 0 _ he
   obtain⟨k3,k4,k5⟩:=G8 (l:=n0::r) (by simp) k2
   have hn0:=k2 n0 (by simp)
   rw[Ag] at hnl
   have hul:(Ch (n0::r)).length=r.length+2:=by rw[Ch];rfl
   have htl:=K4 (Ch (n0::r)) k4
   have hT:=tQ (Ch (n0::r)) k4 (by omega)
   rw[if_pos k3] at hT
   have hE:=Mz (Cd (Ch (n0::r))) (by omega)
   have hat:=Vf k3 k4
   rw[show Bq (Cd (Ch (n0::r)))=Mt (Ch (n0::r)) by unfold Bq;rw[hat],show Xq (Cd (Ch (n0::r)))=0 by unfold Xq;rw[hat]] at hE
   have hel:(Mt (Ch (n0::r))).length≤5*(r.length+1):=by
    rw[k5]
    have:=Ik (n0::r) k2
    simpa using this
   have hB:=Cw false false (Mt (Ch (n0::r))) c (by omega) (by omega)
   have h0:(n0::r)[0]?=some n0:=rfl
   have hz:((((n0::r).length:Nat):Int)==0)=false:=by rw[Ag,beq_eq_false_iff_ne];omega
   have tail:∀(b:Bool),(Mt (Ch (n0::r))==c)=b→Oe c=if b then .tup [sx (Cd (Ch (n0::r))),iv 0] else .tup [sx [],iv 6]:=fun b hb=>by
    simp only at hD
    cases b with
    |true=>rw[if_pos (by simpa using hb)] at hD;unfold Oe odT odC;rw[hD];rfl
    |false=>
     rw[zW,decide_eq_false_iff_not] at hb
     rw[if_neg hb] at hD;unfold Oe odT odC;rw[hD];rfl
   by_cases h80:n0<80
   ·have g80:decide ((n0:Int)<80)=true:=decide_eq_true (by omega)
    have hu:Ch (n0::r)=(n0/40)::(n0-40*(n0/40))::r:=by rw[Ch,show min (n0/40) 2=n0/40 by omega]
    have ar:∀m:Int,m=((n0-40*(n0/40):Nat):Int)→IntKind.u64.wrap m=((n0-40*(n0/40):Nat):Int):=fun m hm=>by rw[hm,IntWalk.u64_in _ (by omega)]
    generalize hq:Ch (n0::r)=q at hT hE hB tail hu
    have hq40:n0/40≤1:=by omega
    generalize hw:n0/40=w40 at hu ar hq40
    have e40:∀z:Int,z=(w40:Int)→IntKind.u64.wrap z=(w40:Int):=fun z hz=>by rw[hz,IntWalk.u64_in _ (by omega)]
    have hw2:w40*40≤n0:=by omega
    rw[hu] at hT hE hB tail
    (repeat'((conv=>whnf);first|refine Ae ?_|refine Ay asP ?_|refine NIdx.tab (fun _=>rfl) h0 ?_|refine NInt.as (((w40:Nat):Int)) (e40 _ (by rw[Int.tdiv_eq_ediv_of_nonneg (by omega)];omega)) ?_|refine NInt.as (((n0-40*w40:Nat):Int)) (ar _ (by omega)) ?_|(with_reducible refine NInt.u32 ?_)|(with_reducible refine NInt.u64 ?_)|refine Au (by first|decide|omega|(simp only[Ag,List.length_nil];omega)) ?_|(refine Ai (fun hc hcP=> ?_) (fun hc hcP=> ?_)<;>try(exfalso;omega))));(all_goals(conv=>whnf))
    refine Ax (fun i:Nat=>1≤i∧i≤r.length+1) (fun i=>r.length+1-i) (fun i=>⟨[(0,.d (Af false c)),(4,Bx 4 1 187 Xs (n0::r)),(8,Bx 60 1 212 Qo (w40::(n0-40*w40)::r.take (i-1))),(9,iv i)],[],[(60,((w40::(n0-40*w40)::r.take (i-1)).length,1,212)),(4,((n0::r).length,1,187))]⟩) 1 ⟨by omega,by omega⟩ (by rw[Nat.sub_self,List.take_zero];exact leQ) ?_
    rintro i ⟨hi1,hi⟩
    obtain⟨j,rfl⟩:∃j,i=j+1:=⟨i-1,by omega⟩
    rw[Nat.add_sub_cancel]
    by_cases hik:j<r.length
    ·obtain⟨m,hm⟩:∃n,r[j]?=some n:=⟨_,Am hik⟩
     have hm2:(n0::r)[j+1]?=some m:=hm
     have hmb:=k2 m (by simp[A8 hm])
     have gi:decide (((j+1:Nat):Int)<((n0::r).length:Nat))=true:=decide_eq_true (by simp only[Ag];omega)
     (repeat'((conv=>whnf);first|refine Ay asP ?_|refine NIdx.tab (fun _=>rfl) hm2 ?_|refine A2 Qo m ?_|(with_reducible refine NInt.i64 ?_)|(with_reducible refine NInt.u32 ?_)));(all_goals(conv=>whnf))
     refine⟨j+1+1,⟨by omega,by omega⟩,by omega,?_⟩
     rw[Nat.add_sub_cancel,F2 hm]
     exact leQ
    ·obtain rfl:j=r.length:=by omega
     have gi:decide (((r.length+1:Nat):Int)<((n0::r).length:Nat))=false:=decide_eq_false (by simp only[Ag];omega)
     rw[List.take_length]
     cases hbb:(Mt (w40::(n0-40*w40)::r)==c)
     ·rw[hbb] at hB
      rw[tail false hbb,if_neg (by simp)]
      (repeat'((conv=>whnf);first|refine Ac ?_|refine Ae ?_|refine A0 asP ?_|refine Aa hT J0 ?_|refine Aa hE rfl ?_|refine Aa hB J0 ?_|exact zE))
     ·rw[hbb] at hB
      rw[tail true hbb,if_pos rfl]
      (repeat'((conv=>whnf);first|refine Ae ?_|refine A0 asP ?_|refine Aa hT J0 ?_|refine Aa hE rfl ?_|refine Aa hB J0 ?_|exact zE))
   ·have g80:decide ((n0:Int)<80)=false:=decide_eq_false (by omega)
    have hu:Ch (n0::r)=2::(n0-40*2)::r:=by rw[Ch,show min (n0/40) 2=2 by omega]
    have ar:∀m:Int,m=((n0-40*2:Nat):Int)→IntKind.u64.wrap m=((n0-40*2:Nat):Int):=fun m hm=>by rw[hm,IntWalk.u64_in _ (by omega)]
    generalize hq:Ch (n0::r)=q at hT hE hB tail hu
    rw[hu] at hT hE hB tail
    (repeat'((conv=>whnf);first|refine Ae ?_|refine A0 asP ?_|refine NIdx.tab (fun _=>rfl) h0 ?_|refine NInt.as (((n0-40*2:Nat):Int)) (ar _ (by omega)) ?_|(with_reducible refine NInt.u32 ?_)|(with_reducible refine NInt.u64 ?_)|(refine Ai (fun hc hcP=> ?_) (fun hc hcP=> ?_)<;>try(exfalso;omega))));(all_goals(conv=>whnf))
    refine Ax (fun i:Nat=>1≤i∧i≤r.length+1) (fun i=>r.length+1-i) (fun i=>⟨[(0,.d (Af false c)),(4,Bx 4 1 187 Xs (n0::r)),(8,Bx 60 1 212 Qo (2::(n0-40*2)::r.take (i-1))),(9,iv i)],[],[(60,((2::(n0-40*2)::r.take (i-1)).length,1,212)),(4,((n0::r).length,1,187))]⟩) 1 ⟨by omega,by omega⟩ (by rw[Nat.sub_self,List.take_zero];exact leQ) ?_
    rintro i ⟨hi1,hi⟩
    obtain⟨j,rfl⟩:∃j,i=j+1:=⟨i-1,by omega⟩
    rw[Nat.add_sub_cancel]
    by_cases hik:j<r.length
    ·obtain⟨m,hm⟩:∃n,r[j]?=some n:=⟨_,Am hik⟩
     have hm2:(n0::r)[j+1]?=some m:=hm
     have hmb:=k2 m (by simp[A8 hm])
     have gi:decide (((j+1:Nat):Int)<((n0::r).length:Nat))=true:=decide_eq_true (by simp only[Ag];omega)
     (repeat'((conv=>whnf);first|refine Ay asP ?_|refine NIdx.tab (fun _=>rfl) hm2 ?_|refine A2 Qo m ?_|(with_reducible refine NInt.i64 ?_)|(with_reducible refine NInt.u32 ?_)));(all_goals(conv=>whnf))
     refine⟨j+1+1,⟨by omega,by omega⟩,by omega,?_⟩
     rw[Nat.add_sub_cancel,F2 hm]
     exact leQ
    ·obtain rfl:j=r.length:=by omega
     have gi:decide (((r.length+1:Nat):Int)<((n0::r).length:Nat))=false:=decide_eq_false (by simp only[Ag];omega)
     rw[List.take_length]
     cases hbb:(Mt (2::(n0-40*2)::r)==c)
     ·rw[hbb] at hB
      rw[tail false hbb,if_neg (by simp)]
      (repeat'((conv=>whnf);first|refine Ac ?_|refine Ae ?_|refine A0 asP ?_|refine Aa hT J0 ?_|refine Aa hE rfl ?_|refine Aa hB J0 ?_|exact zE))
     ·rw[hbb] at hB
      rw[tail true hbb,if_pos rfl]
      (repeat'((conv=>whnf);first|refine Ae ?_|refine A0 asP ?_|refine Aa hT J0 ?_|refine Aa hE rfl ?_|refine Aa hB J0 ?_|exact zE))
inductive S where
 |mk (at' stop c n:Nat) (k:Bool) (b:List UInt8) (ks:List S)
def S.stop:S→Nat
 | .mk _ stop _ _ _ _ _=>stop
mutual
def oO (t:Bool):S→List D
 | .mk _ _ c n k b ks=>[.v (.int .i64 c),.v (.int .i64 n),.v (.bool k),Af t b,.sl t ks.length 5 (Kg t ks)]
def Kg (t:Bool):List S→List D
 |[]=>[]
 |s::r=>oO t s++Kg t r
end
mutual
def oP (t:Bool):S→List D
 | .mk a e c n k b ks=>[.v (.int .i64 a),.v (.int .i64 e),.v (.int .i64 c),.v (.int .i64 n),.v (.bool k),Af t b,.sl t ks.length 5 (Kg t ks),.sl t ks.length 8 (M0 t ks)]
def M0 (t:Bool):List S→List D
 |[]=>[]
 |s::r=>oP t s++M0 t r
end
theorem tR (t:Bool) (l:List S):Kg t l=l.flatMap (oO t):=by
 induction l with
 |nil=>rw[Kg];rfl
 |cons s r ih=>rw[Kg,ih,List.flatMap_cons]
theorem tS (t:Bool) (l:List S):M0 t l=l.flatMap (oP t):=by
 induction l with
 |nil=>rw[M0];rfl
 |cons s r ih=>rw[M0,ih,List.flatMap_cons]
structure SR where
 l:List S
 code:Nat
 off:Nat
def SR.bad (code off:Nat):SR:=⟨[],code,off⟩
def V6 (x:S) (r:SR):SR:=if r.code=0 then⟨x::r.l,0,0⟩ else⟨[],r.code,r.off⟩
theorem Qt {x:S} {r:SR} (h:r.code=0):V6 x r=⟨x::r.l,0,0⟩:=if_pos h
theorem N1 {x:S} {r:SR} (h:r.code≠0):V6 x r=⟨[],r.code,r.off⟩:=if_neg h
def Hj (rd:Nat→SR) (en:Nat):Nat→Nat→SR
 |0,_=>⟨[],0,0⟩
 |f+1,at'=>if at'<en then
   match rd at' with
   |⟨s::_,0,_⟩=>V6 s (Hj rd en f s.stop)
   |r=>⟨[],r.code,r.off⟩
  else⟨[],0,0⟩
theorem K6 {rd:Nat→SR} {en f at':Nat} {s:S} (h:at'<en) (h1:rd at'=⟨[s],0,0⟩):Hj rd en (f+1) at'=V6 s (Hj rd en f s.stop):=by
 rw[Hj,if_pos h,h1];rfl
theorem M1 {rd:Nat→SR} {en f at':Nat} (h:at'<en) (h1:(rd at').code≠0):Hj rd en (f+1) at'=⟨[],(rd at').code,(rd at').off⟩:=by
 rw[Hj,if_pos h]
 generalize rd at'=r at*
 obtain⟨l,c,o⟩:=r
 cases c with
 |zero=>exact absurd rfl h1
 |succ c=>cases l<;>rfl
theorem Hv {rd:Nat→SR} {en f at':Nat} (h:¬at'<en):Hj rd en f at'=⟨[],0,0⟩:=by
 cases f with
 |zero=>rfl
 |succ f=>rw[Hj,if_neg h]
def K7 (b:List UInt8) (kids:Nat→Nat→SR) (at' en:Nat) (h:Hd):SR:=
 if h.code≠0 then .bad h.code (at'+h.off)
 else if en-at'<h.size+h.len then .bad 1 en
 else if h.k=false then⟨[.mk at' (at'+h.size+h.len) h.c h.n false ((b.drop (at'+h.size)).take h.len) []],0,0⟩
 else if(kids (at'+h.size) (at'+h.size+h.len)).code≠0 then .bad (kids (at'+h.size) (at'+h.size+h.len)).code (kids (at'+h.size) (at'+h.size+h.len)).off
 else⟨[.mk at' (at'+h.size+h.len) h.c h.n true [] (kids (at'+h.size) (at'+h.size+h.len)).l],0,0⟩
def Dz (rd:Nat→Nat→SR) (at' en:Nat):SR:=Hj (fun p=>rd p en) en (en-at') at'
def B4 (b:List UInt8):Nat→Nat→Nat→SR
 |0,at',_=> .bad 5 at'
 |d+1,at',en=>K7 b (Dz (B4 b d)) at' en (rhS ((b.drop at').take (en-at')))
def Rds (rd:Nat→SR) (en:Nat):Prop:=∀p,p≤en→((rd p).code=0→∃s:S,rd p=⟨[s],0,0⟩∧p+2≤s.stop∧s.stop≤en)∧((rd p).code≠0→(rd p).off≤en∧(rd p).l=[])
theorem lI {rd:Nat→SR} {en:Nat} (hr:Rds rd en):∀(f g at':Nat),en-at'≤f→f≤g→Hj rd en g at'=Hj rd en f at':=by
 intro f
 induction f with
 |zero=>
  intro g at' h1 h2
  rw[Hv (by omega),Hv (by omega)]
 |succ f ih=>
  intro g at' h1 h2
  obtain⟨g,rfl⟩:∃j,g=j+1:=⟨g-1,by omega⟩
  by_cases h3:at'<en
  ·by_cases h4:(rd at').code≠0
   ·rw[M1 h3 h4,M1 h3 h4]
   ·obtain⟨s,e1,e2,e3⟩:=(hr at' (by omega)).1 (Decidable.not_not.1 h4)
    rw[K6 h3 e1,K6 h3 e1,ih g _ (by omega) (by omega)]
  ·rw[Hv h3,Hv h3]
theorem tT {rd:Nat→Nat→SR} {at' en:Nat} (h:¬at'<en):Dz rd at' en=⟨[],0,0⟩:=Hv h
theorem tU {rd:Nat→Nat→SR} {at' en:Nat} (h:at'<en) (h1:(rd at' en).code≠0):Dz rd at' en=⟨[],(rd at' en).code,(rd at' en).off⟩:=by
 obtain⟨f,hf⟩:∃f,en-at'=f+1:=⟨en-at'-1,by omega⟩
 rw[Dz,hf]
 exact M1 (rd:=fun p=>rd p en) h h1
theorem lJ {rd:Nat→Nat→SR} {at' en:Nat} {s:S} (hr:Rds (fun p=>rd p en) en) (h:at'<en) (h1:rd at' en=⟨[s],0,0⟩) (h2:at'<s.stop):Dz rd at' en=V6 s (Dz rd s.stop en):=by
 obtain⟨f,hf⟩:∃f,en-at'=f+1:=⟨en-at'-1,by omega⟩
 have e:Hj (fun p=>rd p en) en f s.stop=Dz rd s.stop en:=lI hr _ _ _ (Nat.le_refl _) (by omega)
 rw[Dz,hf,K6 (rd:=fun p=>rd p en) h h1,e]
theorem AA {rd:Nat→SR} {en:Nat} (hr:Rds rd en):∀(f at':Nat),((Hj rd en f at').code=0→Hj rd en f at'=⟨(Hj rd en f at').l,0,0⟩)∧(Hj rd en f at').off≤en:=by
 intro f
 induction f with
 |zero=>intro at';exact⟨fun _=>rfl,Nat.zero_le _⟩
 |succ f ih=>
  intro at'
  by_cases h3:at'<en
  ·by_cases h4:(rd at').code≠0
   ·rw[M1 h3 h4]
    exact⟨fun h=>absurd h h4,((hr at' (by omega)).2 h4).1⟩
   ·obtain⟨s,e1,e2,e3⟩:=(hr at' (by omega)).1 (Decidable.not_not.1 h4)
    rw[K6 h3 e1]
    by_cases h5:(Hj rd en f s.stop).code=0
    ·rw[Qt h5]
     exact⟨fun _=>rfl,Nat.zero_le _⟩
    ·rw[N1 h5]
     exact⟨fun h=>absurd h h5,(ih s.stop).2⟩
  ·rw[Hv h3]
   exact⟨fun _=>rfl,Nat.zero_le _⟩
theorem Gv (b:List UInt8):∀(d en:Nat),en≤b.length→Rds (fun p=>B4 b d p en) en:=by
 intro d
 induction d with
 |zero=>
  intro en hen p hp
  exact⟨fun h=>by simp[B4,SR.bad] at h,fun _=>⟨by simp[B4,SR.bad];exact hp,rfl⟩⟩
 |succ d ih=>
  intro en hen p hp
  have hB:=Em ((b.drop p).take (en-p))
  have hlen:((b.drop p).take (en-p)).length=en-p:=by simp;omega
  rw[hlen] at hB
  show((B4 b (d+1) p en).code=0→_)∧_
  simp only[B4]
  generalize rhS ((b.drop p).take (en-p))=h at hB⊢
  obtain⟨c1,c2,c3,c4,c5,c6,c7⟩:=hB
  unfold K7
  by_cases k1:h.code≠0
  ·rw[if_pos k1]
   exact⟨fun h'=>absurd h' k1,fun _=>⟨by simp only[SR.bad];omega,rfl⟩⟩
  rw[if_neg k1]
  by_cases k2:en-p<h.size+h.len
  ·rw[if_pos k2]
   exact⟨fun h'=>by simp[SR.bad] at h',fun _=>⟨by simp[SR.bad],rfl⟩⟩
  rw[if_neg k2]
  have c1':=c1 (Decidable.not_not.1 k1)
  by_cases k3:h.k=false
  ·rw[if_pos k3]
   exact⟨fun _=>⟨_,rfl,by simp only[S.stop];omega,by simp only[S.stop];omega⟩,fun h'=>by simp at h'⟩
  rw[if_neg k3]
  have hR:=ih (p+h.size+h.len) (by omega)
  have hK:=AA hR (p+h.size+h.len-(p+h.size)) (p+h.size)
  by_cases k4:(Dz (B4 b d) (p+h.size) (p+h.size+h.len)).code≠0
  ·rw[if_pos k4]
   have h9:(Dz (B4 b d) (p+h.size) (p+h.size+h.len)).off≤p+h.size+h.len:=hK.2
   exact⟨fun h'=>absurd h' k4,fun _=>⟨by simp only[SR.bad];omega,rfl⟩⟩
  ·rw[if_neg k4]
   exact⟨fun _=>⟨_,rfl,by simp only[S.stop];omega,by simp only[S.stop];omega⟩,fun h'=>by simp at h'⟩
def fL:AV:= .agg [iv 0,iv 0,iv 0,iv 0,bv false,A4,A4,A4]
def JR (x:S):AV:= .agg ((oP true x).map AV.d)
def trA (r:SR):AV:=match r with
 |⟨x::_,0,_⟩=> .tup [JR x,erA 0 0]
 |r=> .tup [fL,erA r.code r.off]
theorem lL (x:S):trA ⟨[x],0,0⟩= .tup [JR x,erA 0 0]:=rfl
theorem Qu {r:SR} (h:r.code≠0):trA r= .tup [fL,erA r.code r.off]:=by
 obtain⟨l,c,o⟩:=r
 cases c with
 |zero=>exact absurd rfl h
 |succ c=>cases l<;>rfl
theorem Pg (c o:Int):Ab Tryz.prog 227 [iv c,iv o] (fun r=>r= .tup [fL,erA c o]):=by
 refine acQ 10 Tryz.func227 rfl rfl fun _ _ _=> ?_
 (all_goals(conv=>whnf))
 exact zE
abbrev JS:S→List D:=oO true
abbrev JT:S→List D:=oP true
theorem V7 {p:Prop} (h:p:=by first|rfl|(simp only[AV.gives,AV.ren,AV.give,D.un,D.uns,An,Ao,List.nil_append,List.append_nil,List.cons_append,Av,Ee,Ef];first|done|rfl)):p:=h
theorem tV (b:List UInt8) (hb:b.length≤1000000000) (d at' en cc nn ll sz off:Nat) (hd:d<1000) (h1:at'≤en) (h2:en≤b.length) (hsz:2≤sz) (h3:sz+ll≤en-at')
 (hR:Ab Tryz.prog 107 [.d (Af false ((b.drop at').take (en-at')))] (fun r=>r= .tup [.agg [iv cc,iv nn,bv true,iv ll,iv sz],erA 0 off]))
 (ih:∀(p q:Nat),p≤q→q≤b.length→Ab Tryz.prog 209 [.d (Af false b),iv p,iv q,iv d] (fun r=>r=trA (B4 b d p q))):
 Ab Tryz.prog 209 [.d (Af false b),iv at',iv en,iv (d+1:Nat)] (fun r=>r=trA (K7 b (Dz (B4 b d)) at' en ⟨cc,nn,true,ll,sz,0,off⟩)):=by
 have hRd:=Gv b d (at'+sz+ll) (by omega)
 have hF:(Dz (B4 b d) (at'+sz) (at'+sz+ll)).code≠0→K7 b (Dz (B4 b d)) at' en ⟨cc,nn,true,ll,sz,0,off⟩= .bad (Dz (B4 b d) (at'+sz) (at'+sz+ll)).code (Dz (B4 b d) (at'+sz) (at'+sz+ll)).off:=fun h=>by
  unfold K7
  rw[if_neg (fun x=>x rfl),if_neg (show¬en-at'<sz+ll by omega),if_neg (fun x=>by cases x),if_pos h]
 have hO:(Dz (B4 b d) (at'+sz) (at'+sz+ll)).code=0→K7 b (Dz (B4 b d)) at' en ⟨cc,nn,true,ll,sz,0,off⟩=⟨[.mk at' (at'+sz+ll) cc nn true [] (Dz (B4 b d) (at'+sz) (at'+sz+ll)).l],0,0⟩:=fun h=>by
  unfold K7
  rw[if_neg (fun x=>x rfl),if_neg (show¬en-at'<sz+ll by omega),if_neg (fun x=>by cases x),if_neg (fun x=>x h)]
 generalize hK:Dz (B4 b d) (at'+sz) (at'+sz+ll)=K0 at hF hO
 refine acQ 125 Tryz.func209 rfl rfl fun _ _ _=> ?_
 (repeat'((conv=>whnf);first|refine Ae ?_|refine Aa hR V7 ?_|refine NSl.slice (at') (en) ?_|(with_reducible refine NInt.i64 ?_)|(refine Ai (fun hc hcP=> ?_) (fun hc hcP=> ?_)<;>try(exfalso;omega))));(all_goals(conv=>whnf))
 refine A5 [.b 14 6 1000 5 79,.b 14 7 1001 8 237] (fun z:Nat×List S=>z.1≤at'+sz+ll∧z.2.length≤z.1∧(Dz (B4 b d) z.1 (at'+sz+ll)).code=K0.code∧(K0.code≠0→(Dz (B4 b d) z.1 (at'+sz+ll)).off=K0.off)∧(K0.code=0→K0.l=z.2++(Dz (B4 b d) z.1 (at'+sz+ll)).l)) (fun z=>at'+sz+ll-z.1)
  (fun z=>⟨[(0,.d (Af false b)),(3,iv (d+1:Nat)),(8,.ptr 8 0),(9,.ptr 9 0),(13,iv z.1),(14,.ptr 14 0)],[(8,[iv 0,iv 0,iv 0,iv 0,bv false,A4,A4,A4]),(9,[iv 0,iv 0]),(14,[iv at',iv (at'+sz+ll:Nat),iv cc,iv nn,bv true,A4,Bx 1000 5 79 JS z.2,Bx 1001 8 237 JT z.2])],[(1000,(z.2.length,5,79)),(1001,(z.2.length,8,237))]⟩) (at'+sz,[]) ⟨by simp only[];omega,by simp,by rw[hK],fun _=>by rw[hK],fun _=>by rw[hK];rfl⟩ leQ ?_
 ·rintro⟨p,acc⟩ ⟨hp,hacc,e1,e2,e3⟩
  simp only[] at hp hacc e1 e2 e3
  by_cases h5:p<at'+sz+ll
  ·have hrec:=ih p (at'+sz+ll) (by omega) (by omega)
   by_cases h6:(B4 b d p (at'+sz+ll)).code≠0
   ·rw[tU h5 h6] at e1 e2
    have h7:K0.code≠0:=by rw[←e1];exact h6
    rw[Qu h6,show(B4 b d p (at'+sz+ll)).code=K0.code from e1,show(B4 b d p (at'+sz+ll)).off=K0.off from e2 h7] at hrec
    rw[hF h7,Qu (show(SR.bad K0.code K0.off).code≠0 from h7)]
    (repeat'((conv=>whnf);first|refine Aa hrec V7 ?_|refine NInt.as (((d:Nat):Int)) ((by rw[IntWalk.i64_in _ (by omega)];omega)) ?_|refine zF ?_|(refine Ai (fun hc hcP=> ?_) (fun hc hcP=> ?_)<;>try(exfalso;omega))|(refine Cy (fun hc hcP=> ?_) (fun hc hcP=> ?_)<;>try(exfalso;omega))|exact zE))
   ·obtain⟨s,r1,r2,r3⟩:=(hRd p (by omega)).1 (Decidable.not_not.1 h6)
    obtain⟨a,q,c,n,k,b',ks⟩:=s
    have r1':B4 b d p (at'+sz+ll)=⟨[S.mk a q c n k b' ks],0,0⟩:=r1
    have r2':p+2≤q:=r2
    have r3':q≤at'+sz+ll:=r3
    rw[r1',lL] at hrec
    have hrec':Ab Tryz.prog 209 [.d (Af false b),iv p,iv (at'+sz+ll:Nat),iv d] (fun r=>r= .tup [.agg [iv a,iv q,iv c,iv n,bv k,.d (Af true b'),.d (.sl true ks.length 5 (Kg true ks)),.d (.sl true ks.length 8 (M0 true ks))],erA 0 0]):=hrec
    have hst:=lJ hRd h5 r1' (show p<q by omega)
    have hst':Dz (B4 b d) p (at'+sz+ll)=V6 (S.mk a q c n k b' ks) (Dz (B4 b d) q (at'+sz+ll)):=hst
    have e1':(Dz (B4 b d) q (at'+sz+ll)).code=K0.code:=by
     rw[←e1,hst']
     by_cases h9:(Dz (B4 b d) q (at'+sz+ll)).code=0
     ·rw[Qt h9];exact h9
     ·rw[N1 h9]
    have e2':K0.code≠0→(Dz (B4 b d) q (at'+sz+ll)).off=K0.off:=fun h=>by
     rw[←e2 h,hst',N1 (by rw[e1'];exact h)]
    have e3':K0.code=0→K0.l=(acc++[S.mk a q c n k b' ks])++(Dz (B4 b d) q (at'+sz+ll)).l:=fun h=>by
     rw[e3 h,hst',Qt (by rw[e1'];exact h)];simp
    clear hst hst' r1 r2 r3 hrec e1 e2 e3
    (repeat'((conv=>whnf);first|refine Ae ?_|refine Aa hrec' V7 ?_|refine NInt.as (((d:Nat):Int)) ((by rw[IntWalk.i64_in _ (by omega)];omega)) ?_|refine A2 JS (S.mk a q c n k b' ks) ?_|refine A2 JT (S.mk a q c n k b' ks) ?_|(refine Ai (fun hc hcP=> ?_) (fun hc hcP=> ?_)<;>try(exfalso;omega))));(all_goals(conv=>whnf))
    refine⟨(q,acc++[S.mk a q c n k b' ks]),⟨by simp only[];omega,by simp only[Ap,Ag,List.length_nil] at*;omega,e1',e2',e3'⟩,by simp only[];omega,?_⟩
    exact leQ
  ·rw[tT h5] at e1 e3
   have h7:K0.code=0:=e1.symm
   have h8:=e3 h7
   rw[hO h7,h8,List.append_nil]
   (repeat'((conv=>whnf);(refine Ai (fun hc hcP=> ?_) (fun hc hcP=> ?_)<;>try(exfalso;omega))));(all_goals(conv=>whnf))
   all_goals(refine A7 ?_;(repeat'(first|exact trivial|exact Be _|refine And.intro ?_ ?_|exact rfl));(all_goals(conv=>whnf)))
   all_goals first|exact(tR true acc).symm|exact(tS true acc).symm
theorem Qv {p:Prop} (h:p:=by first|rfl|(simp only[AV.gives,AV.ren,AV.give,D.un,D.uns,An,Ao,List.nil_append,List.append_nil,List.cons_append,Av,Ee,Ef];first|done|rfl)):p:=h
theorem AB (b:List UInt8) (hb:b.length≤1000000000):∀(d at' en:Nat),d≤1000→at'≤en→en≤b.length→Ab Tryz.prog 209 [.d (Af false b),iv at',iv en,iv d] (fun r=>r=trA (B4 b d at' en)):=by
 intro d
 induction d with
 |zero=>
  intro at' en hd h1 h2
  refine acQ 125 Tryz.func209 rfl rfl fun _ _ _=> ?_
  (repeat'((conv=>whnf);first|refine Ac ?_|refine Aa (Pg 5 at') rfl ?_|exact zE))
 |succ d ih=>
  intro at' en hd h1 h2
  have hlen:((b.drop at').take (en-at')).length=en-at':=by simp;omega
  have hR:=Qe ((b.drop at').take (en-at')) (by omega)
  have hB:=Em ((b.drop at').take (en-at'))
  have hRd:=Gv b d
  rw[hlen] at hB
  rw[B4]
  generalize hh:rhS ((b.drop at').take (en-at'))=h at hR hB⊢
  obtain⟨c1,c2,c3,c4,c5,c6,c7⟩:=hB
  by_cases k1:h.code=0
  ·have c1':=c1 k1
   by_cases k2:en-at'<h.size+h.len
   ·rw[K7,if_neg (by omega),if_pos k2]
    refine acQ 125 Tryz.func209 rfl rfl fun _ _ _=> ?_
    (repeat'((conv=>whnf);first|refine Ae ?_|refine Aa hR Qv ?_|refine NSl.slice (at') (en) ?_|refine Aa (Pg _ _) rfl ?_|(with_reducible refine NInt.i64 ?_)|(refine Ai (fun hc hcP=> ?_) (fun hc hcP=> ?_)<;>try(exfalso;omega))|(refine Cy (fun hc hcP=> ?_) (fun hc hcP=> ?_)<;>try(exfalso;omega))|exact zE))
    all_goals rfl
   ·obtain⟨cc,nn,kk,ll,sz,cd,of⟩:=h
    have k2':¬en-at'<sz+ll:=k2
    have k1':¬cd≠0:=fun x=>x k1
    have k0:cd=0:=k1
    have c1a:2≤sz:=c1'.1
    have c1b:sz≤en-at':=c1'.2.1
    have c4a:ll≤2147483647:=c4
    have hq:at'+sz+ll-(at'+sz)=ll:=by omega
    have hR':Ab Tryz.prog 107 [.d (Af false ((b.drop at').take (en-at')))] (fun r=>r= .tup [.agg [iv cc,iv nn,bv kk,iv ll,iv sz],erA cd of]):=hR
    cases kk with
    |false=>
     have hC:=Kz ((b.drop (at'+sz)).take (at'+sz+ll-(at'+sz))) (by rw[Al];omega)
     have e:K7 b (Dz (B4 b d)) at' en ⟨cc,nn,false,ll,sz,cd,of⟩=⟨[.mk at' (at'+sz+ll) cc nn false ((b.drop (at'+sz)).take (at'+sz+ll-(at'+sz))) []],0,0⟩:=by
      rw[hq];unfold K7
      rw[if_neg k1',if_neg k2',if_pos rfl]
     rw[e]
     refine acQ 125 Tryz.func209 rfl rfl fun _ _ _=> ?_
     (repeat'((conv=>whnf);first|refine Ac ?_|refine Ae ?_|refine Aa hR' Qv ?_|refine NSl.slice (at') (en) ?_|refine NSl.slice (at'+sz) (at'+sz+ll) ?_|refine Aa hC Qv ?_|(with_reducible refine NInt.i64 ?_)|(refine Ai (fun hc hcP=> ?_) (fun hc hcP=> ?_)<;>try(exfalso;omega))|(refine Cy (fun hc hcP=> ?_) (fun hc hcP=> ?_)<;>try(exfalso;omega))|exact zE))
     all_goals rfl
    |true=>
     subst k0
     exact tV b hb d at' en cc nn ll sz of (by omega) h1 h2 c1a (by omega) hR' (fun p q hp hq'=>ih p q (by omega) hp hq')
  ·have e:K7 b (Dz (B4 b d)) at' en h= .bad h.code (at'+h.off):=by rw[K7,if_pos k1]
   rw[e,Qu k1]
   refine acQ 125 Tryz.func209 rfl rfl fun _ _ _=> ?_
   (repeat'((conv=>whnf);first|refine Ae ?_|refine Aa hR Qv ?_|refine NSl.slice (at') (en) ?_|refine Aa (Pg _ _) rfl ?_|(with_reducible refine NInt.i64 ?_)|(refine Cy (fun hc hcP=> ?_) (fun hc hcP=> ?_)<;>try(exfalso;omega))|exact zE))
   all_goals rfl
def aX (n:Nat):SR→SR
 |⟨s::_,0,_⟩=>if s.stop<n then .bad 2 s.stop else⟨[s],0,0⟩
 |r=> .bad r.code r.off
def Ez (b:List UInt8):SR:=aX b.length (B4 b 16 0 b.length)
theorem H7 {n:Nat} {s:S} (h:s.stop<n):aX n ⟨[s],0,0⟩= .bad 2 s.stop:=if_pos h
theorem K8 {n:Nat} {s:S} (h:¬s.stop<n):aX n ⟨[s],0,0⟩=⟨[s],0,0⟩:=if_neg h
theorem Jb {n c o:Nat}:aX n ⟨[],c,o⟩= .bad c o:=by cases c<;>rfl
theorem M2 {p:Prop} (h:p:=by first|rfl|(simp only[AV.gives,AV.ren,AV.give,D.un,D.uns,An,Ao,List.nil_append,List.append_nil,List.cons_append,Av,Ee,Ef];first|done|rfl)):p:=h
theorem tW (b:List UInt8) (hb:b.length≤1000000000):Ab Tryz.prog 178 [.d (Af false b)] (fun r=>r=trA (Ez b)):=by
 have hR:=AB b hb 16 0 b.length (by omega) (by omega) (by omega)
 have hF:=Gv b 16 b.length (by omega) 0 (by omega)
 dsimp only at hF
 unfold Ez
 generalize B4 b 16 0 b.length=r at hR hF
 by_cases h:r.code=0
 ·obtain⟨s,rfl,h1,h2⟩:=hF.1 h
  obtain⟨a,q,c,n,k,b',ks⟩:=s
  simp only[S.stop] at h1 h2
  rw[lL] at hR
  have hR':Ab Tryz.prog 209 [.d (Af false b),iv 0,iv b.length,iv 16] (fun r=>r= .tup [.agg [iv a,iv q,iv c,iv n,bv k,.d (Af true b'),.d (.sl true ks.length 5 (Kg true ks)),.d (.sl true ks.length 8 (M0 true ks))],erA 0 0]):=hR
  by_cases h3:q<b.length
  ·rw[H7 (show(S.mk a q c n k b' ks).stop<b.length from h3)]
   refine acQ 29 Tryz.func178 rfl rfl fun _ _ _=> ?_
   (repeat'((conv=>whnf);first|refine Ac ?_|refine Aa hR' M2 ?_|refine zF ?_|(refine Ai (fun hc hcP=> ?_) (fun hc hcP=> ?_)<;>try(exfalso;omega))|exact zE))
  ·rw[K8 (show¬(S.mk a q c n k b' ks).stop<b.length from h3)]
   refine acQ 29 Tryz.func178 rfl rfl fun _ _ _=> ?_
   (repeat'((conv=>whnf);first|refine Ac ?_|refine Aa hR' M2 ?_|refine zF ?_|(refine Ai (fun hc hcP=> ?_) (fun hc hcP=> ?_)<;>try(exfalso;omega))|exact zE))
 ·rw[Qu h] at hR
  obtain⟨l,c,o⟩:=r
  have hl:l=[]:=(hF.2 h).2
  subst hl
  have h':¬c=0:=h
  have hR':Ab Tryz.prog 209 [.d (Af false b),iv 0,iv b.length,iv 16] (fun r=>r= .tup [fL,erA c o]):=hR
  rw[Jb]
  refine acQ 29 Tryz.func178 rfl rfl fun _ _ _=> ?_
  (repeat'((conv=>whnf);first|refine Ae ?_|refine Aa hR' M2 ?_|refine zF ?_|(refine Ai (fun hc hcP=> ?_) (fun hc hcP=> ?_)<;>try(exfalso;omega))|exact zE))
theorem tX (b:List UInt8) (hb:b.length≤1000000000):Ab Tryz.prog 139 [.d (Af false b)] (fun r=>r= .tup [.agg ((match Ez b with
 |⟨s::_,0,_⟩=>oO true s
 |_=>[.v (.int .i64 0),.v (.int .i64 0),.v (.bool false),.v (.slice none 0 0),.v (.slice none 0 0)]).map AV.d),erA (Ez b).code (Ez b).off]):=by
 have hR:=tW b hb
 have hF:=Gv b 16 b.length (by omega) 0 (by omega)
 dsimp only at hF
 have hW:((Ez b).code=0→∃s,Ez b=⟨[s],0,0⟩)∧((Ez b).code≠0→(Ez b).l=[]):=by
  unfold Ez
  generalize B4 b 16 0 b.length=r at hF
  by_cases h:r.code=0
  ·obtain⟨s,rfl,h1,h2⟩:=hF.1 h
   by_cases h3:s.stop<b.length
   ·rw[H7 h3];simp[SR.bad]
   ·rw[K8 h3];simp
  ·obtain⟨l,c,o⟩:=r
   have hl:l=[]:=(hF.2 h).2
   subst hl
   have h':¬c=0:=h
   rw[Jb];simp[SR.bad,h']
 generalize Ez b=r at hR hW⊢
 by_cases h:r.code=0
 ·obtain⟨s,rfl⟩:=hW.1 h
  obtain⟨a,q,c,n,k,b',ks⟩:=s
  rw[lL] at hR
  have hR':Ab Tryz.prog 178 [.d (Af false b)] (fun r=>r= .tup [.agg [iv a,iv q,iv c,iv n,bv k,.d (Af true b'),.d (.sl true ks.length 5 (Kg true ks)),.d (.sl true ks.length 8 (M0 true ks))],erA 0 0]):=hR
  refine acQ 14 Tryz.func139 rfl rfl fun _ _ _=> ?_
  (repeat'((conv=>whnf);first|refine Aa hR' M2 ?_|refine zF ?_|exact zE))
 ·rw[Qu h] at hR
  obtain⟨l,c,o⟩:=r
  have hl:l=[]:=hW.2 h
  subst hl
  have h':¬c=0:=h
  have hR':Ab Tryz.prog 178 [.d (Af false b)] (fun r=>r= .tup [fL,erA c o]):=hR
  refine acQ 14 Tryz.func139 rfl rfl fun _ _ _=> ?_
  (repeat'((conv=>whnf);first|refine Aa hR' M2 ?_|refine zF ?_|exact zE))
inductive Tr where
 |mk (c n:Nat) (k:Bool) (b:List UInt8) (ks:List Tr)
mutual
def Tr.cells (t:Bool):Tr→List D
 | .mk c n k b ks=>[.v (.int .i64 c),.v (.int .i64 n),.v (.bool k),Af t b,.sl t ks.length 5 (Tr.cellss t ks)]
def Tr.cellss (t:Bool):List Tr→List D
 |[]=>[]
 |s::r=>s.cells t++Tr.cellss t r
end
theorem Tr.cellss_eq (t:Bool) (l:List Tr):Tr.cellss t l=l.flatMap (Tr.cells t):=by
 induction l with
 |nil=>rw[Tr.cellss];rfl
 |cons s r ih=>rw[Tr.cellss,ih,List.flatMap_cons]
theorem Tr.cells_len (t:Bool) (s:Tr):(s.cells t).length=5:=by cases s;rw[Tr.cells];rfl
theorem Tr.cells_un (t:Bool):∀s:Tr,D.uns (s.cells t)=s.cells false
 | .mk c n k b ks=>by
   have h:∀l:List Tr,(∀s,s∈l→D.uns (s.cells t)=s.cells false)→D.uns (Tr.cellss t l)=Tr.cellss false l:=by
    intro l
    induction l with
    |nil=>intro _;rw[Tr.cellss,Tr.cellss];rfl
    |cons s r ih=>
     intro hs
     rw[Tr.cellss,Tr.cellss,D.uns_eq,List.map_append,←D.uns_eq,←D.uns_eq,hs s (by simp),ih fun x hx=>hs x (by simp[hx])]
   have hk:=h ks fun s hs=>Tr.cells_un t s
   rw[Tr.cells,Tr.cells]
   simp only[D.uns,D.un,An,hk]
termination_by s=>SizeOf.sizeOf s
decreasing_by
 have:=List.sizeOf_lt_of_mem hs
 simp only[Tr.mk.sizeOf_spec];omega
theorem Tr.cellss_un (t:Bool) (l:List Tr):D.uns (Tr.cellss t l)=Tr.cellss false l:=by
 induction l with
 |nil=>rw[Tr.cellss,Tr.cellss];rfl
 |cons s r ih=>rw[Tr.cellss,Tr.cellss,D.uns_eq,List.map_append,←D.uns_eq,←D.uns_eq,Tr.cells_un,ih]
structure TR where
 l:List Tr
 size:Nat
 code:Nat
 off:Nat
def TR.bad (code off:Nat):TR:=⟨[],0,code,off⟩
def Y1 (sz:Nat) (x:Tr) (r:TR):TR:=if r.code=0 then⟨x::r.l,0,0,0⟩ else .bad r.code (sz+r.off)
theorem K9 {sz:Nat} {x:Tr} {r:TR} (h:r.code=0):Y1 sz x r=⟨x::r.l,0,0,0⟩:=if_pos h
theorem Ix {sz:Nat} {x:Tr} {r:TR} (h:r.code≠0):Y1 sz x r= .bad r.code (sz+r.off):=if_neg h
def kT (rd:List UInt8→TR):Nat→List UInt8→TR
 |0,_=>⟨[],0,0,0⟩
 |f+1,l=>if l.length=0 then⟨[],0,0,0⟩ else match rd l with
  |⟨t::_,sz,0,_⟩=>Y1 sz t (kT rd f (l.drop sz))
  |r=> .bad r.code r.off
def Ci (rd:List UInt8→TR) (l:List UInt8):TR:=kT rd l.length l
theorem R0 {rd:List UInt8→TR} {f:Nat} {l:List UInt8} (h:l.length=0):kT rd f l=⟨[],0,0,0⟩:=by
 cases f with
 |zero=>rfl
 |succ f=>rw[kT,if_pos h]
theorem aY {rd:List UInt8→TR} {f:Nat} {l:List UInt8} {t:Tr} {sz:Nat} (h:l.length≠0) (h1:rd l=⟨[t],sz,0,0⟩):kT rd (f+1) l=Y1 sz t (kT rd f (l.drop sz)):=by
 rw[kT,if_neg h,h1];rfl
theorem oQ {rd:List UInt8→TR} {f:Nat} {l:List UInt8} (h:l.length≠0) (h1:(rd l).code≠0):kT rd (f+1) l= .bad (rd l).code (rd l).off:=by
 rw[kT,if_neg h]
 generalize rd l=r at*
 obtain⟨l,s,c,o⟩:=r
 cases c with
 |zero=>exact absurd rfl h1
 |succ c=>cases l<;>rfl
def RdT (rd:List UInt8→TR):Prop:=∀l,((rd l).code=0→∃t sz,rd l=⟨[t],sz,0,0⟩∧2≤sz∧sz≤l.length)∧((rd l).code≠0→(rd l).off≤l.length∧(rd l).l=[]∧(rd l).size=0∧(rd l).code≤9)
theorem GD {rd:List UInt8→TR} (hr:RdT rd):∀(f g:Nat) (l:List UInt8),l.length≤f→f≤g→kT rd g l=kT rd f l:=by
 intro f
 induction f with
 |zero=>intro g l h1 h2;rw[R0 (by omega),R0 (by omega)]
 |succ f ih=>
  intro g l h1 h2
  obtain⟨g,rfl⟩:∃j,g=j+1:=⟨g-1,by omega⟩
  by_cases h3:l.length=0
  ·rw[R0 h3,R0 h3]
  ·by_cases h4:(rd l).code=0
   ·obtain⟨t,sz,e1,e2,e3⟩:=(hr l).1 h4
    rw[aY h3 e1,aY h3 e1,ih g _ (by rw[Az];omega) (by omega)]
   ·rw[oQ h3 h4,oQ h3 h4]
theorem Ff {rd:List UInt8→TR} {l:List UInt8} (h:l.length=0):Ci rd l=⟨[],0,0,0⟩:=R0 h
theorem N2 {rd:List UInt8→TR} {l:List UInt8} (h:l.length≠0) (h1:(rd l).code≠0):Ci rd l= .bad (rd l).code (rd l).off:=by
 obtain⟨f,hf⟩:∃f,l.length=f+1:=⟨l.length-1,by omega⟩
 rw[Ci,hf];exact oQ h h1
theorem Hw {rd:List UInt8→TR} (hr:RdT rd) {l:List UInt8} {t:Tr} {sz:Nat} (h:l.length≠0) (h1:rd l=⟨[t],sz,0,0⟩):Ci rd l=Y1 sz t (Ci rd (l.drop sz)):=by
 obtain⟨f,hf⟩:∃f,l.length=f+1:=⟨l.length-1,by omega⟩
 have h2:(rd l).code=0:=by rw[h1]
 obtain⟨t',sz',e1,e2,e3⟩:=(hr l).1 h2
 have hs:sz'=sz:=by rw[h1] at e1;cases e1;rfl
 subst hs
 rw[Ci,hf,aY h h1,Ci,GD hr (l.drop sz').length f _ (Nat.le_refl _) (by rw[Az];omega)]
theorem fM {rd:List UInt8→TR} (hr:RdT rd):∀(f:Nat) (l:List UInt8),l.length≤f→((Ci rd l).code=0→Ci rd l=⟨(Ci rd l).l,0,0,0⟩)∧((Ci rd l).code≠0→(Ci rd l).off≤l.length∧(Ci rd l).code≤9):=by
 intro f
 induction f with
 |zero=>intro l h;rw[Ff (by omega)];exact⟨fun _=>rfl,fun h=>absurd rfl h⟩
 |succ f ih=>
  intro l h
  by_cases h3:l.length=0
  ·rw[Ff h3];exact⟨fun _=>rfl,fun h=>absurd rfl h⟩
  ·by_cases h4:(rd l).code=0
   ·obtain⟨t,sz,e1,e2,e3⟩:=(hr l).1 h4
    have ih':=ih (l.drop sz) (by rw[Az];omega)
    rw[Hw hr h3 e1]
    by_cases h5:(Ci rd (l.drop sz)).code=0
    ·rw[K9 h5];exact⟨fun _=>rfl,fun h=>absurd rfl h⟩
    ·rw[Ix h5]
     have:=ih'.2 h5
     rw[Az] at this
     exact⟨fun h=>absurd h h5,fun _=>⟨by simp only[TR.bad];omega,this.2⟩⟩
   ·rw[N2 h3 h4]
    exact⟨fun h=>absurd h h4,fun _=>⟨((hr l).2 h4).1,((hr l).2 h4).2.2.2⟩⟩
def rTH (rd:List UInt8→TR) (l:List UInt8) (h:Hd):TR:=
 if h.code≠0 then .bad h.code h.off
 else if l.length<h.size+h.len then .bad 1 l.length
 else if h.k=false then⟨[.mk h.c h.n false ((l.drop h.size).take h.len) []],h.size+h.len,0,0⟩
 else if(Ci rd ((l.drop h.size).take h.len)).code≠0 then .bad (Ci rd ((l.drop h.size).take h.len)).code (h.size+(Ci rd ((l.drop h.size).take h.len)).off)
 else⟨[.mk h.c h.n true [] (Ci rd ((l.drop h.size).take h.len)).l],h.size+h.len,0,0⟩
def rT:Nat→List UInt8→TR
 |0,_=> .bad 5 0
 |d+1,l=>rTH (rT d) l (rhS l)
theorem Ow:∀d,RdT (rT d):=by
 intro d
 induction d with
 |zero=>intro l;exact⟨fun h=>by simp[rT,TR.bad] at h,fun _=>by simp[rT,TR.bad]⟩
 |succ d ih=>
  intro l
  have hB:=Em l
  simp only[rT]
  generalize rhS l=h at hB⊢
  obtain⟨c1,c2,c3,c4,c5,c6,c7⟩:=hB
  unfold rTH
  by_cases k1:h.code≠0
  ·rw[if_pos k1]
   exact⟨fun h'=>absurd h' k1,fun _=>⟨by simp only[TR.bad];omega,rfl,rfl,by simp only[TR.bad];omega⟩⟩
  rw[if_neg k1]
  have c1':=c1 (Decidable.not_not.1 k1)
  by_cases k2:l.length<h.size+h.len
  ·rw[if_pos k2]
   exact⟨fun h'=>by simp[TR.bad] at h',fun _=>by simp[TR.bad]⟩
  rw[if_neg k2]
  by_cases k3:h.k=false
  ·rw[if_pos k3]
   exact⟨fun _=>⟨_,_,rfl,by omega,by omega⟩,fun h'=>by simp at h'⟩
  rw[if_neg k3]
  have hK:=fM ih _ ((l.drop h.size).take h.len) (Nat.le_refl _)
  have hl:((l.drop h.size).take h.len).length=h.len:=by rw[Al,Az];omega
  rw[hl] at hK
  by_cases k4:(Ci (rT d) ((l.drop h.size).take h.len)).code≠0
  ·rw[if_pos k4]
   have:=hK.2 k4
   exact⟨fun h'=>absurd h' k4,fun _=>⟨by simp only[TR.bad];omega,rfl,rfl,this.2⟩⟩
  ·rw[if_neg k4]
   exact⟨fun _=>⟨_,_,rfl,by omega,by omega⟩,fun h'=>by simp at h'⟩
def ndZ:AV:= .agg [iv 0,iv 0,bv false,A4,A4]
def trN (t:Tr):AV:= .agg ((t.cells true).map AV.d)
def rtA (r:TR):AV:=match r with
 |⟨t::_,sz,0,_⟩=> .tup [trN t,iv sz,erA 0 0]
 |r=> .tup [ndZ,iv 0,erA r.code r.off]
theorem lM (t:Tr) (sz:Nat):rtA ⟨[t],sz,0,0⟩= .tup [trN t,iv sz,erA 0 0]:=rfl
theorem Tw {r:TR} (h:r.code≠0):rtA r= .tup [ndZ,iv 0,erA r.code r.off]:=by
 obtain⟨l,s,c,o⟩:=r
 cases c with
 |zero=>exact absurd rfl h
 |succ c=>cases l<;>rfl
abbrev trC:Tr→List D:=Tr.cells true
theorem Y2 {p:Prop} (h:p:=by first|rfl|(simp only[AV.gives,AV.ren,AV.give,D.un,D.uns,An,Ao,List.nil_append,List.append_nil,List.cons_append,Av,Ee,Ef];first|done|rfl)):p:=h
theorem lN (l:List UInt8) (hb:l.length≤1000000000) (d cc nn ll sz off:Nat) (hd:d<1000) (hsz:2≤sz) (h3:sz+ll≤l.length)
 (hN:Ab Tryz.prog 115 [.d (Af false l)] (fun r=>r= .tup [.agg [iv cc,iv nn,bv true,iv ll,iv sz],.d (Af false ((l.drop sz).take ll)),.d (Af false (l.drop (sz+ll))),erA 0 0]))
 (ih:∀m:List UInt8,m.length≤1000000000→Ab Tryz.prog 87 [.d (Af false m),iv d] (fun r=>r=rtA (rT d m))):
 Ab Tryz.prog 87 [.d (Af false l),iv (d+1:Nat)] (fun r=>r=rtA (rTH (rT d) l ⟨cc,nn,true,ll,sz,0,off⟩)):=by
 have hRd:=Ow d
 have hF:(Ci (rT d) ((l.drop sz).take ll)).code≠0→rTH (rT d) l ⟨cc,nn,true,ll,sz,0,off⟩= .bad (Ci (rT d) ((l.drop sz).take ll)).code (sz+(Ci (rT d) ((l.drop sz).take ll)).off):=fun h=>by
  unfold rTH
  rw[if_neg (fun x=>x rfl),if_neg (show¬l.length<sz+ll by omega),if_neg (fun x=>by cases x),if_pos h]
 have hO:(Ci (rT d) ((l.drop sz).take ll)).code=0→rTH (rT d) l ⟨cc,nn,true,ll,sz,0,off⟩=⟨[.mk cc nn true [] (Ci (rT d) ((l.drop sz).take ll)).l],sz+ll,0,0⟩:=fun h=>by
  unfold rTH
  rw[if_neg (fun x=>x rfl),if_neg (show¬l.length<sz+ll by omega),if_neg (fun x=>by cases x),if_neg (fun x=>x h)]
 have hcl:((l.drop sz).take ll).length=ll:=by rw[Al,Az];omega
 generalize (l.drop sz).take ll=m at hF hO hN hcl
 generalize hK:Ci (rT d) m=K0 at hF hO
 refine acQ 97 Tryz.func87 rfl rfl fun _ _ _=> ?_
 (repeat'((conv=>whnf);first|refine Ae ?_|refine Aa hN Y2 ?_));(all_goals(conv=>whnf))
 refine A5 [.b 11 4 1000 5 79] (fun z:Nat×List Tr=>z.1≤ll∧z.2.length≤z.1∧(Ci (rT d) (m.drop z.1)).code=K0.code∧(K0.code≠0→z.1+(Ci (rT d) (m.drop z.1)).off=K0.off)∧(K0.code=0→K0.l=z.2++(Ci (rT d) (m.drop z.1)).l)) (fun z=>ll-z.1)
  (fun z=>⟨[(1,iv (d+1:Nat)),(4,.ptr 4 0),(6,.ptr 6 0),(7,.ptr 7 0),(8,.d (Af false m)),(11,.ptr 11 0),(12,iv z.1)],[(4,[iv 0,iv 0,bv false,A4,A4]),(6,[iv 0,iv 0]),(7,[iv cc,iv nn,bv true,iv ll,iv sz]),(11,[iv cc,iv nn,bv true,A4,Bx 1000 5 79 trC z.2])],[(1000,(z.2.length,5,79))]⟩) (0,[]) ⟨by simp,by simp,by rw[List.drop_zero,hK],fun _=>by rw[List.drop_zero,hK,Nat.zero_add],fun _=>by rw[List.drop_zero,hK];rfl⟩ leQ ?_
 ·rintro⟨p,acc⟩ ⟨hp,hacc,e1,e2,e3⟩
  simp only[] at hp hacc e1 e2 e3
  have hdl:(m.drop p).length=ll-p:=by rw[Az,hcl]
  by_cases h5:p<ll
  ·have hne:(m.drop p).length≠0:=by omega
   have hrec:=ih (m.drop p) (by omega)
   by_cases h6:(rT d (m.drop p)).code≠0
   ·rw[N2 hne h6] at e1 e2
    have h7:K0.code≠0:=by rw[←e1];exact h6
    have e1':(rT d (m.drop p)).code=K0.code:=e1
    have e2':p+(rT d (m.drop p)).off=K0.off:=e2 h7
    rw[Tw h6] at hrec
    have hof:=((hRd (m.drop p)).2 h6).1
    generalize rT d (m.drop p)=R at hrec e1' e2' h6 hof
    have hne0:¬((R.code:Nat):Int)=0:=by omega
    have hrec':Ab Tryz.prog 87 [.d (Af false (m.drop p)),iv d] (fun r=>r= .tup [.agg [iv 0,iv 0,bv false,A4,A4],iv 0,.agg [iv R.code,iv R.off]]):=hrec
    rw[hF h7,Tw (show(TR.bad K0.code (sz+K0.off)).code≠0 from h7)]
    (repeat'((conv=>whnf);first|refine Aa hrec' Y2 ?_|refine NInt.as (((d:Nat):Int)) ((by rw[IntWalk.i64_in _ (by omega)];omega)) ?_|refine F9 (p) ?_|(with_reducible refine NInt.i64 ?_)|refine zF ?_|(refine Ai (fun hc hcP=> ?_) (fun hc hcP=> ?_)<;>try(exfalso;omega))|(refine Cy (fun hc hcP=> ?_) (fun hc hcP=> ?_)<;>try(exfalso;omega))));(all_goals(conv=>whnf))
    all_goals(refine A7 ?_;(repeat'(first|exact trivial|exact Be _|refine And.intro ?_ ?_|exact rfl));(all_goals(conv=>whnf)))
    all_goals simp only[TR.bad]
    all_goals omega
   ·obtain⟨t,q,r1,r2,r3⟩:=(hRd (m.drop p)).1 (Decidable.not_not.1 h6)
    obtain⟨c,n,k,b',ks⟩:=t
    rw[r1,lM] at hrec
    have hrec':Ab Tryz.prog 87 [.d (Af false (m.drop p)),iv d] (fun r=>r= .tup [.agg [iv c,iv n,bv k,.d (Af true b'),.d (.sl true ks.length 5 (Tr.cellss true ks))],iv q,erA 0 0]):=hrec
    have hst:=Hw hRd hne r1
    rw[List.drop_drop] at hst
    have e1':(Ci (rT d) (m.drop (p+q))).code=K0.code:=by
     rw[←e1,hst]
     by_cases h9:(Ci (rT d) (m.drop (p+q))).code=0
     ·rw[K9 h9];exact h9
     ·rw[Ix h9];rfl
    have e2':K0.code≠0→p+q+(Ci (rT d) (m.drop (p+q))).off=K0.off:=fun h=>by
     rw[←e2 h,hst,Ix (by rw[e1'];exact h)];simp only[TR.bad];omega
    have e3':K0.code=0→K0.l=(acc++[Tr.mk c n k b' ks])++(Ci (rT d) (m.drop (p+q))).l:=fun h=>by
     rw[e3 h,hst,K9 (by rw[e1'];exact h)];simp
    clear hst r1 hrec e1 e2 e3
    rw[hdl] at r3
    (repeat'((conv=>whnf);first|refine Ae ?_|refine Aa hrec' Y2 ?_|refine NInt.as (((d:Nat):Int)) ((by rw[IntWalk.i64_in _ (by omega)];omega)) ?_|refine F9 (p) ?_|refine A2 trC (Tr.mk c n k b' ks) ?_|(with_reducible refine NInt.i64 ?_)|(refine Ai (fun hc hcP=> ?_) (fun hc hcP=> ?_)<;>try(exfalso;omega))));(all_goals(conv=>whnf))
    refine⟨(p+q,acc++[Tr.mk c n k b' ks]),⟨by simp only[];omega,by simp only[Ap,Ag,List.length_nil] at*;omega,e1',e2',e3'⟩,by simp only[];omega,?_⟩
    exact leQ
  ·have h50:(m.drop p).length=0:=by omega
   rw[Ff h50] at e1 e3
   have h7:K0.code=0:=e1.symm
   have h8:=e3 h7
   rw[hO h7,h8,List.append_nil,lM]
   (repeat'((conv=>whnf);first|(with_reducible refine NInt.i64 ?_)|refine zF ?_|(refine Ai (fun hc hcP=> ?_) (fun hc hcP=> ?_)<;>try(exfalso;omega))));(all_goals(conv=>whnf))
   all_goals(refine A7 ?_;(repeat'(first|exact trivial|exact Be _|refine And.intro ?_ ?_|exact rfl));(all_goals(conv=>whnf)))
   all_goals exact(Tr.cellss_eq true acc).symm
theorem tY:∀(d:Nat) (l:List UInt8),d≤1000→l.length≤1000000000→Ab Tryz.prog 87 [.d (Af false l),iv d] (fun r=>r=rtA (rT d l)):=by
 intro d
 induction d with
 |zero=>
  intro l hd hb
  refine acQ 97 Tryz.func87 rfl rfl fun _ _ _=> ?_
  (repeat'((conv=>whnf);refine Ac ?_));(all_goals(conv=>whnf))
  all_goals exact zE
 |succ d ih=>
  intro l hd hb
  have hN:=tB l hb
  have hB:=Em l
  rw[rT]
  unfold kZ at hN
  generalize rhS l=h at hN hB⊢
  obtain⟨c1,c2,c3,c4,c5,c6,c7⟩:=hB
  obtain⟨cc,nn,kk,ll,sz,cd,of⟩:=h
  by_cases k1:cd=0
  ·subst k1
   have c1':=c1 rfl
   rw[if_neg (fun x=>x rfl)] at hN
   by_cases k2:l.length<sz+ll
   ·rw[if_pos k2] at hN
    rw[rTH,if_neg (fun x=>x rfl),if_pos k2]
    refine acQ 97 Tryz.func87 rfl rfl fun _ _ _=> ?_
    (repeat'((conv=>whnf);first|refine Ac ?_|refine Ae ?_|refine Aa hN Y2 ?_|refine zF ?_|exact zE))
   ·rw[if_neg k2] at hN
    simp only[] at c1'
    cases kk with
    |false=>
     have e:rTH (rT d) l ⟨cc,nn,false,ll,sz,0,of⟩=⟨[.mk cc nn false ((l.drop sz).take ll) []],sz+ll,0,0⟩:=by
      unfold rTH
      rw[if_neg (fun x=>x rfl),if_neg k2,if_pos rfl]
     have hlm:((l.drop sz).take ll).length≤1000000000:=by rw[Al];omega
     have c4':ll≤2147483647:=c4
     rw[e,lM]
     have hN':Ab Tryz.prog 115 [.d (Af false l)] (fun r=>r= .tup [.agg [iv cc,iv nn,bv false,iv ll,iv sz],.d (Af false ((l.drop sz).take ll)),.d (Af false (l.drop (sz+ll))),erA 0 0]):=hN
     generalize (l.drop sz).take ll=m at hN' hlm⊢
     refine acQ 97 Tryz.func87 rfl rfl fun _ _ _=> ?_
     (repeat'((conv=>whnf);first|refine Ac ?_|refine Ae ?_|refine Aa hN' Y2 ?_|refine Mp ([]) ?_|(with_reducible refine NInt.i64 ?_)|refine zF ?_|exact zE))
    |true=>exact lN l hb d cc nn ll sz of (by omega) c1'.1 (by omega) hN (fun m hm=>ih m (by omega) hm)
  ·rw[if_pos k1] at hN
   have k1':¬((cd:Nat):Int)=0:=by omega
   rw[rTH,if_pos k1,Tw (show(TR.bad cd of).code≠0 from k1)]
   have hN':Ab Tryz.prog 115 [.d (Af false l)] (fun r=>r= .tup [hdA (.bad 0 0),A4,A4,.agg [iv cd,iv of]]):=hN
   refine acQ 97 Tryz.func87 rfl rfl fun _ _ _=> ?_
   (repeat'((conv=>whnf);first|refine Ae ?_|refine Aa hN' Y2 ?_|refine zF ?_|(refine Cy (fun hc hcP=> ?_) (fun hc hcP=> ?_)<;>try(exfalso;omega))|exact zE))
def aZ (n:Nat):TR→TR
 |⟨t::_,sz,0,_⟩=>if sz<n then .bad 2 sz else⟨[t],sz,0,0⟩
 |r=> .bad r.code r.off
theorem M3 {n sz:Nat} {t:Tr} (h:sz<n):aZ n ⟨[t],sz,0,0⟩= .bad 2 sz:=if_pos h
theorem N3 {n sz:Nat} {t:Tr} (h:¬sz<n):aZ n ⟨[t],sz,0,0⟩=⟨[t],sz,0,0⟩:=if_neg h
theorem Ph {n c o s:Nat}:aZ n ⟨[],s,c,o⟩= .bad c o:=by cases c<;>rfl
def Db (d:Nat) (b:List UInt8):TR:=aZ b.length (rT d b)
theorem Ox (d:Nat) (b:List UInt8):((Db d b).code=0→∃t,Db d b=⟨[t],b.length,0,0⟩∧rT d b=⟨[t],b.length,0,0⟩)∧((Db d b).code≠0→(Db d b).l=[]∧(Db d b).size=0∧(Db d b).off≤b.length):=by
 have hF:=Ow d b
 unfold Db
 generalize rT d b=r at hF⊢
 by_cases h:r.code=0
 ·obtain⟨t,sz,rfl,h1,h2⟩:=hF.1 h
  by_cases h3:sz<b.length
  ·rw[M3 h3];exact⟨fun h=>by simp[TR.bad] at h,fun _=>⟨rfl,rfl,h2⟩⟩
  ·have:sz=b.length:=by omega
   subst this
   rw[N3 h3];exact⟨fun _=>⟨t,rfl,rfl⟩,fun h=>absurd rfl h⟩
 ·obtain⟨l,s,c,o⟩:=r
  obtain⟨h1,h2,h3,h4⟩:=hF.2 h
  have h2:l=[]:=h2
  subst h2
  have h':¬c=0:=h
  rw[Ph]
  exact⟨fun h=>absurd h h',fun _=>⟨rfl,rfl,h1⟩⟩
def Tr.zero:Tr:= .mk 0 0 false [] []
def TR.tree (r:TR):Tr:=r.l.headD .zero
def wtA (r:TR):AV:= .tup [trN r.tree,erA r.code r.off]
theorem S0 {p:Prop} (h:p:=by first|rfl|(simp only[AV.gives,AV.ren,AV.give,D.un,D.uns,An,Ao,List.nil_append,List.append_nil,List.cons_append,Av,Ee,Ef,Tr.cellss_un];first|done|rfl)):p:=h
theorem V8 (d:Nat) (b:List UInt8) (hd:d≤1000) (hb:b.length≤1000000000):Ab Tryz.prog 54 [.d (Af false b),iv d] (fun r=>r=wtA (Db d b)):=by
 have hR:=tY d b hd hb
 have hF:=Ow d b
 unfold Db
 generalize rT d b=r at hR hF⊢
 by_cases h:r.code=0
 ·obtain⟨t,sz,rfl,h1,h2⟩:=hF.1 h
  obtain⟨c,n,k,b',ks⟩:=t
  have hR':Ab Tryz.prog 87 [.d (Af false b),iv d] (fun r=>r= .tup [.agg [iv c,iv n,bv k,.d (Af true b'),.d (.sl true ks.length 5 (Tr.cellss true ks))],iv sz,erA 0 0]):=hR
  by_cases h3:sz<b.length
  ·rw[M3 h3]
   refine acQ 30 Tryz.func54 rfl rfl fun _ _ _=> ?_
   (repeat'((conv=>whnf);first|refine Ac ?_|refine Aa hR' S0 ?_|(refine Ai (fun hc hcP=> ?_) (fun hc hcP=> ?_)<;>try(exfalso;omega))|exact zE))
  ·rw[N3 h3]
   refine acQ 30 Tryz.func54 rfl rfl fun _ _ _=> ?_
   (repeat'((conv=>whnf);first|refine Ac ?_|refine Aa hR' S0 ?_|refine zF ?_|(refine Ai (fun hc hcP=> ?_) (fun hc hcP=> ?_)<;>try(exfalso;omega))|exact zE))
 ·obtain⟨l,s,c,o⟩:=r
  obtain⟨h1,h2,h3,h4⟩:=hF.2 h
  have h2:l=[]:=h2
  subst h2
  have h':¬c=0:=h
  have hR':Ab Tryz.prog 87 [.d (Af false b),iv d] (fun r=>r= .tup [ndZ,iv 0,erA c o]):=by rw[Tw h] at hR;exact hR
  rw[Ph]
  refine acQ 30 Tryz.func54 rfl rfl fun _ _ _=> ?_
  (repeat'((conv=>whnf);first|refine Ae ?_|refine Aa hR' S0 ?_|refine zF ?_|(refine Ai (fun hc hcP=> ?_) (fun hc hcP=> ?_)<;>try(exfalso;omega))|exact zE))
theorem V9 {t:Tr} {c n:Nat} {k:Bool} {b:List UInt8} {ks:List Tr} (h:t= .mk c n k b ks):trN t= .agg [iv c,iv n,bv k,.d (Af true b),.d (.sl true ks.length 5 (Tr.cellss true ks))]:=by subst h;rfl
theorem lO (b:List UInt8) (hb:b.length≤1000000000):Ab Tryz.prog 204 [.d (Af false b)] (fun r=>r=wtA (Db 16 b)):=by
 have hR:=V8 16 b (by omega) hb
 unfold wtA at hR⊢
 generalize hw:Db 16 b=r at hR⊢
 generalize ht:r.tree=t at hR⊢
 obtain⟨c,n,k,b',ks⟩:=t
 rw[V9 rfl] at hR⊢
 refine acQ 8 Tryz.func204 rfl rfl fun _ _ _=> ?_
 (repeat'((conv=>whnf);refine Aa hR S0 ?_));(all_goals(conv=>whnf))
 all_goals exact zE
def Bt (b:List UInt8):Tr:=(Db 60 b).tree
theorem fN (b:List UInt8) (hb:b.length≤1000000000):Ab Tryz.prog 28 [.d (Af false b)] (fun r=>r= .tup [trN (Bt b),bv ((Db 60 b).code==0)]):=by
 have hR:=V8 60 b (by omega) hb
 unfold wtA at hR
 unfold Bt
 generalize hw:Db 60 b=r at hR⊢
 generalize ht:r.tree=t at hR⊢
 obtain⟨c,n,k,b',ks⟩:=t
 rw[V9 rfl] at hR⊢
 refine acQ 15 Tryz.func28 rfl rfl fun _ _ _=> ?_
 (repeat'((conv=>whnf);first|refine Aa hR S0 ?_|refine zF ?_));(all_goals(conv=>whnf))
 all_goals(refine A7 ?_;(repeat'(first|exact trivial|exact Be _|refine And.intro ?_ ?_|exact rfl));(all_goals(conv=>whnf)))
 all_goals exact Ga r.code 0
def fO (b:List UInt8):Bool:=(Db 16 b).code==0
theorem tZ (b:List UInt8) (hb:b.length≤1000000000):Ab Tryz.prog 168 [.d (Af false b)] (fun r=>r=bv (fO b)):=by
 have hR:=lO b hb
 unfold wtA at hR
 unfold fO
 generalize hw:Db 16 b=r at hR⊢
 generalize ht:r.tree=t at hR⊢
 obtain⟨c,n,k,b',ks⟩:=t
 rw[V9 rfl] at hR
 refine acQ 13 Tryz.func168 rfl rfl fun _ _ _=> ?_
 (repeat'((conv=>whnf);refine Aa hR S0 ?_));(all_goals(conv=>whnf))
 all_goals(refine A7 ?_;(repeat'(first|refine And.intro ?_ ?_|exact rfl));(all_goals(conv=>whnf)))
 all_goals exact Ga r.code 0
mutual
def Tr.enc:Tr→List UInt8
 | .mk c n k b ks=>Kb (UInt8.ofNat (idN c k n)) (b++Tr.encs ks)
def Tr.encs:List Tr→List UInt8
 |[]=>[]
 |s::r=>s.enc++Tr.encs r
end
mutual
def Tr.ok:Tr→Prop
 | .mk c n _ _ ks=>c≤3∧n≤30∧Tr.oks ks
def Tr.oks:List Tr→Prop
 |[]=>True
 |s::r=>s.ok∧Tr.oks r
end
theorem Tr.oks_mem {l:List Tr} (h:Tr.oks l):∀s∈l,s.ok:=by
 induction l with
 |nil=>intro s hs;simp at hs
 |cons x r ih=>
  rw[Tr.oks] at h
  intro s hs
  rcases List.mem_cons.1 hs with rfl|hs
  ·exact h.1
  ·exact ih h.2 s hs
theorem Tr.encs_eq (l:List Tr):Tr.encs l=l.flatMap Tr.enc:=by
 induction l with
 |nil=>rw[Tr.encs];rfl
 |cons s r ih=>rw[Tr.encs,ih,List.flatMap_cons]
theorem Tr.encs_snoc {l:List Tr} {i:Nat} {t:Tr} (h:l[i]?=some t):Tr.encs (l.take (i+1))=Tr.encs (l.take i)++t.enc:=by
 obtain⟨hlt,he⟩:=Aw.1 h
 rw[Tr.encs_eq,Tr.encs_eq,List.take_succ_eq_append_getElem hlt,he,List.flatMap_append];simp
theorem Tr.encs_le (l:List Tr) (i:Nat):(Tr.encs (l.take i)).length≤(Tr.encs l).length:=by
 rw[Tr.encs_eq,Tr.encs_eq]
 conv=>rhs;rw[←List.take_append_drop i l,List.flatMap_append,Ap]
 omega
theorem E0 (x:UInt8) (c:List UInt8):(Kb x c).length=1+(Fm c.length).length+c.length:=by
 unfold Kb;simp;omega
theorem Tr.enc_pos (t:Tr):1≤t.enc.length:=by cases t;rw[Tr.enc,E0];omega
theorem Tr.encs_cnt (l:List Tr):l.length≤(Tr.encs l).length:=by
 induction l with
 |nil=>simp
 |cons s r ih=>rw[Tr.encs,Ag,Ap];have:=s.enc_pos;omega
theorem Fc {tg:Bool} {ks:List Tr} {j:Int} {A:List D→Prop} {i:Nat} {t:Tr} (hb:ks[i]?=some t) (k:A (t.cells tg)) (hj:j=(i:Int):=by first|rfl|omega):NIdx (Tr.cellss tg ks) ks.length 5 j A:=by
 rw[Tr.cellss_eq]
 exact NIdx.tab (Tr.cells_len tg) hb k hj
theorem lP (c n:Nat) (k:Bool) (hc1:c≤3) (hn1:n≤30):Ab Tryz.prog 202 [iv c,bv k,iv n] (fun r=>r= .tup [cv (UInt8.ofNat (idN c k n)).toNat,iv 0]):=by
 cases k with
 |true=>
  refine acQ 32 Tryz.func202 rfl rfl fun _ _ _=> ?_
  (repeat'((conv=>whnf);first|refine Ac ?_|refine Ae ?_|(with_reducible refine NInt.i64 ?_)|(with_reducible refine NInt.u8 ?_)|(refine Ai (fun hc hcP=> ?_) (fun hc hcP=> ?_)<;>try(exfalso;omega))));(all_goals(conv=>whnf))
  all_goals(refine A7 ?_;(repeat'(first|exact trivial|exact Be _|refine And.intro ?_ ?_|exact rfl));(all_goals(conv=>whnf)))
  rw[Sr (aJ _ hc1 hn1)];unfold idN;simp;omega
 |false=>
  refine acQ 32 Tryz.func202 rfl rfl fun _ _ _=> ?_
  (repeat'((conv=>whnf);first|refine Ae ?_|(with_reducible refine NInt.i64 ?_)|(with_reducible refine NInt.u8 ?_)|(refine Ai (fun hc hcP=> ?_) (fun hc hcP=> ?_)<;>try(exfalso;omega))));(all_goals(conv=>whnf))
  all_goals(refine A7 ?_;(repeat'(first|exact trivial|exact Be _|refine And.intro ?_ ?_|exact rfl));(all_goals(conv=>whnf)))
  rw[Sr (aJ _ hc1 hn1)];unfold idN;simp;omega
def trF (t:Tr):AV:= .agg ((t.cells false).map AV.d)
theorem Bv (c n:Nat) (k:Bool) (b:List UInt8) (ks:List Tr):trF (.mk c n k b ks)= .agg [iv c,iv n,bv k,.d (Af false b),.d (.sl false ks.length 5 (Tr.cellss false ks))]:=rfl
theorem Pi:∀t:Tr,t.ok→t.enc.length≤900000000→Ab Tryz.prog 162 [trF t] (fun r=>r=Bb 0 5 t.enc)
 | .mk c n k b ks=>fun hok hlen=>by
   rw[Tr.ok] at hok
   obtain⟨hc1,hn1,hks⟩:=hok
   rw[Tr.enc,E0,Ap] at hlen
   have ih:∀s∈ks,Ab Tryz.prog 162 [trF s] (fun r=>r=Bb 0 5 s.enc):=fun s hs=>by
    refine Pi s (Tr.oks_mem hks s hs) ?_
    obtain⟨i,hi,rfl⟩:=List.getElem_of_mem hs
    have h1:=Tr.encs_snoc (Am hi)
    have h2:=Tr.encs_le ks (i+1)
    rw[h1,Ap] at h2
    omega
   have hI:=lP c n k hc1 hn1
   have hP:=Dc (UInt8.ofNat (idN c k n)) (b++Tr.encs ks) (by rw[Ap];omega)
   have hcnt:=Tr.encs_cnt ks
   rw[Tr.enc,Bv]
   refine acQ 39 Tryz.func162 rfl rfl fun _ _ _=> ?_
   (repeat'((conv=>whnf);first|refine Aa hI rfl ?_|refine Mp ([]) ?_));(all_goals(conv=>whnf))
   refine Ax (fun i:Nat=>i≤ks.length) (fun i=>ks.length-i) (fun i=>⟨[(1,.ptr 1 0),(2,A4),(3,cv (UInt8.ofNat (idN c k n)).toNat),(5,Bb 17 5 (b++Tr.encs (ks.take i))),(6,iv i)],[(1,[iv c,iv n,bv k,.d (Af false b),.d (.sl false ks.length 5 (Tr.cellss false ks))])],[(17,((b++Tr.encs (ks.take i)).length,1,5))]⟩) 0 (by omega) ?_ ?_
   ·simp only[List.take_zero,Tr.encs,List.append_nil]
    exact leQ
   ·intro i hi
    by_cases hik:i<ks.length
    ·obtain⟨t,ht⟩:∃t,ks[i]?=some t:=⟨_,Am hik⟩
     have hT:=ih t (A8 ht)
     have h1:=Tr.encs_snoc ht
     have h2:=Tr.encs_le ks (i+1)
     rw[h1,Ap] at h2
     obtain⟨tc,tn,tk',tb,tks⟩:=t
     rw[Bv] at hT
     have hcell:(Tr.mk tc tn tk' tb tks).cells false=[.v (.int .i64 tc),.v (.int .i64 tn),.v (.bool tk'),Af false tb,.sl false tks.length 5 (Tr.cellss false tks)]:=rfl
     (repeat'((conv=>whnf);first|refine Aa hT S0 ?_|(with_reducible refine Fc ht ?_)|(rw[hcell])|(with_reducible refine NInt.i64 ?_)|(with_reducible refine NApp.bytes ?_)|(refine Ai (fun hc hcP=> ?_) (fun hc hcP=> ?_)<;>try(exfalso;omega))));(all_goals(conv=>whnf))
     refine⟨i+1,by omega,by omega,?_⟩
     rw[h1,←List.append_assoc]
     exact leQ
    ·obtain rfl:i=ks.length:=by omega
     rw[List.take_length]
     (repeat'((conv=>whnf);first|refine Aa hP S0 ?_|(refine Ai (fun hc hcP=> ?_) (fun hc hcP=> ?_)<;>try(exfalso;omega))|exact zE))
termination_by t=>SizeOf.sizeOf t
decreasing_by
 have:=List.sizeOf_lt_of_mem hs
 simp only[Tr.mk.sizeOf_spec];omega
theorem Fd (s:List UInt8):(Bq s).length≤5*(s.length+1):=by
 unfold Bq
 cases h:Ex s with
 |none=>simp
 |some a=>
  obtain⟨k1,k2,k3⟩:=Hu h
  have hal:=V5 h
  obtain⟨x,y,r,rfl,x2,xy,y2⟩:=Ey k1
  have hxy:40*x+y≤4294967295:=by
   by_cases hx:x<2
   ·have:=xy hx;omega
   ·omega
  have h1:=K5 true 4 (40*x+y) (by omega)
  have h2:=Ik r (fun n hn=>k2 n (by simp[hn]))
  simp only[Ag] at hal
  simp only[Mt,Ap];omega
def R1 (s:List UInt8):List UInt8:=Ah 0 6 false (Bq s)
theorem fP {p:Prop} (h:p:=by first|rfl|(simp only[AV.gives,AV.ren,AV.give,D.un,D.uns,An,Ao,List.nil_append,List.append_nil,List.cons_append,Av,Ee,Ef,Tr.cellss_un];first|done|rfl)):p:=h
theorem Wa (s:List UInt8) (hs:s.length≤3500000):Ab Tryz.prog 131 [sx s] (fun r=>r= .d (Af true (R1 s))):=by
 have hE:=Mz s hs
 have hl:=Fd s
 have hP:Ab Tryz.prog 94 [cv 6,.d (Af false (Bq s))] (fun r=>r=Bb 0 5 (R1 s)):=Dc 6 (Bq s) (by omega)
 refine acQ 12 Tryz.func131 rfl rfl fun _ _ _=> ?_
 (repeat'((conv=>whnf);first|refine Aa hE rfl ?_|refine Aa hP fP ?_|exact zE))
def Tr.v:Tr→List UInt8
 | .mk _ _ _ b _=>b
def Tr.ks:Tr→List Tr
 | .mk _ _ _ _ ks=>ks
def Tr.n:Tr→Nat
 | .mk _ n _ _ _=>n
theorem M4 (t:Tr) (hl:t.v.length≤30000):Ab Tryz.prog 119 [trF t] (fun r=>r=sx (odT t.v)):=by
 obtain⟨c,n,k,b,ks⟩:=t
 have hD:=fK b hl
 unfold Oe at hD
 rw[Bv]
 refine acQ 12 Tryz.func119 rfl rfl fun _ _ _=> ?_
 (repeat'((conv=>whnf);refine Aa hD fP ?_));(all_goals(conv=>whnf))
 all_goals exact zE
def Tr.kid (t:Tr) (i:Nat):Tr:=t.ks.getD i .zero
theorem Il (t:Tr) (i:Nat) (hi:i≤1000000):Ab Tryz.prog 88 [trF t,iv i] (fun r=>r=trF (t.kid i)):=by
 obtain⟨c,n,k,b,ks⟩:=t
 have g0:decide ((i:Int)<0)=false:=decide_eq_false (by omega)
 rw[Bv]
 by_cases h:i<ks.length
 ·have g1:decide ((i:Int)≥ks.length)=false:=decide_eq_false (by omega)
  obtain⟨x,hx⟩:∃x,ks[i]?=some x:=⟨_,Am h⟩
  have e:(Tr.mk c n k b ks).kid i=x:=by show ks.getD i .zero=x;rw[List.getD_eq_getElem?_getD,hx];rfl
  rw[e]
  obtain⟨c',n',k',b',ks'⟩:=x
  rw[Bv]
  refine acQ 20 Tryz.func88 rfl rfl fun _ _ _=> ?_
  (repeat'((conv=>whnf);first|refine Ae ?_|refine A0 asP ?_|(refine Fc hx ?_)|exact zE))
 ·have g1:decide ((i:Int)≥ks.length)=true:=decide_eq_true (by omega)
  have e:(Tr.mk c n k b ks).kid i= .zero:=by show ks.getD i .zero=_;rw[List.getD_eq_getElem?_getD,List.getElem?_eq_none (by omega)];rfl
  rw[e,Tr.zero,Bv]
  refine acQ 20 Tryz.func88 rfl rfl fun _ _ _=> ?_
  (repeat'((conv=>whnf);first|refine Ae ?_|refine Ay asP ?_|exact zE))
theorem AC (n:Nat):beV (Ka n)=n:=by
 induction n using Nat.strongRecOn with
 |_ n ih=>
  by_cases h:n<256
  ·rw[C4 h];simp[beV];omega
  ·rw[Iu h,Qd,ih (n/256) (by omega),UInt8.toNat_ofNat'];omega
theorem GE (n:Nat) (hn:n≤2147483647) (rest:List UInt8):rlS (Fm n++rest)=(n,(Fm n).length,0,0):=by
 have hL:=I8 3 n (by omega)
 by_cases h:n<128
 ·rw[Fm,if_pos h,C4 (by omega),List.singleton_append,Nu (by rw[UInt8.toNat_ofNat'];omega),UInt8.toNat_ofNat',Nat.mod_eq_of_lt (by omega)]
  rfl
 ·obtain⟨y,s,e,hy⟩:=Rt 3 n (by omega) (by omega)
  have hb:beV (y::s)=n:=by rw[←e,AC]
  rw[e] at hL
  rw[Ag] at hL
  have hk:(UInt8.ofNat (128+(y::s).length)).toNat=s.length+1+128:=by rw[UInt8.toNat_ofNat',Ag];omega
  have ht:(y::(s++rest)).take (s.length+1)=y::s:=by simp
  rw[Fm,if_neg h,e,List.cons_append,List.cons_append,aG hk (by omega) (by omega) (by simp) (by rw[ht,hb];omega),ht,hb]
  rfl
theorem GF {l:List UInt8} (h:(rlS l).2.2.1=0):l.take (rlS l).2.1=Fm (rlS l).1:=by
 cases l with
 |nil=>simp[rlS] at h
 |cons x r=>
  have hx:=x.toNat_lt
  by_cases h1:x.toNat<128
  ·rw[Nu h1]
   show(x::r).take 1=Fm x.toNat
   rw[Fm,if_pos h1,C4 (by omega),Lq];rfl
  by_cases h2:x.toNat=128∨x.toNat>132
  ·rw[U7 (by omega) h2] at h;cases h
  by_cases h3:r.length<x.toNat-128
  ·rw[Rr (by omega) (by omega) h3] at h;cases h
  cases r with
  |nil=>simp at h3;omega
  |cons y s=>
   rw[Ag] at h3
   obtain⟨k,hk⟩:∃k,x.toNat=k+128:=⟨x.toNat-128,by omega⟩
   by_cases h4:y.toNat=0∨beV ((y::s).take k)<128∨beV ((y::s).take k)>2147483647
   ·rw[Tl hk (by omega) (by omega) (by omega) h4] at h;cases h
   ·rw[aG hk (by omega) (by omega) (by omega) h4]
    obtain⟨j,rfl⟩:∃j,k=j+1:=⟨k-1,by omega⟩
    rw[List.take_succ_cons] at h4⊢
    show(x::y::s).take (j+1+1)=Fm (beV (y::s.take j))
    rw[List.take_succ_cons,List.take_succ_cons,Fm,if_neg (by omega),(eE y (by omega) j _ (by rw[Al];omega)).1,Ag,Al,show 128+(min j s.length+1)=x.toNat by omega,Lq]
theorem AD (c n:Nat) (k:Bool):idN c k n=c*64+n+(if k then 32 else 0):=by unfold idN;cases k<;>simp<;>omega
theorem Y3 {c n:Nat} (k:Bool) (hc:c≤3) (hn:n≤30):(UInt8.ofNat (idN c k n)).toNat=c*64+n+(if k then 32 else 0):=by
 have:=aJ k hc hn
 rw[UInt8.toNat_ofNat',Nat.mod_eq_of_lt (by omega),AD]
theorem GH {c n:Nat} {k:Bool} (l rest:List UInt8) (hc:c≤3) (hn:n≤30) (hl:l.length≤2147483647):rhS (Ah c n k l++rest)=⟨c,n,k,l.length,(Fm l.length).length+1,0,0⟩:=by
 have hx:=Y3 k hc hn
 unfold Ah Kb
 generalize UInt8.ofNat (idN c k n)=x at hx
 rw[List.cons_append,List.append_assoc,rhS,GE _ hl]
 cases k
 ·simp only[Bool.false_eq_true,ite_false,Nat.add_zero] at hx
  rw[if_neg (by omega),if_pos rfl,show x.toNat/64=c by omega,show x.toNat%32=n by omega,show(x.toNat/32%2==1)=false by rw[beq_eq_false_iff_ne];omega]
 ·simp only[ite_true] at hx
  rw[if_neg (by omega),if_pos rfl,show x.toNat/64=c by omega,show x.toNat%32=n by omega,show(x.toNat/32%2==1)=true by rw[beq_iff_eq];omega]
theorem oR {l:List UInt8} (h:(rhS l).code=0) (hle:(rhS l).size+(rhS l).len≤l.length):l.take ((rhS l).size+(rhS l).len)=Ah (rhS l).c (rhS l).n (rhS l).k ((l.drop (rhS l).size).take (rhS l).len):=by
 cases l with
 |nil=>simp[rhS,Hd.bad] at h
 |cons x r=>
  have hx:=x.toNat_lt
  rw[rhS] at h hle⊢
  by_cases h1:x.toNat%32=31
  ·rw[if_pos h1] at h;simp[Hd.bad] at h
  rw[if_neg h1] at h hle⊢
  by_cases h2:(rlS r).2.2.1=0
  ·rw[if_pos h2] at h hle⊢
   have hi:=GF h2
   simp only[Ag] at hle⊢
   rw[show(rlS r).2.1+1+(rlS r).1=(rlS r).2.1+(rlS r).1+1 by omega,List.take_succ_cons,List.drop_succ_cons]
   have hlen:((r.drop (rlS r).2.1).take (rlS r).1).length=(rlS r).1:=by rw[Al,Az];omega
   unfold Ah Kb
   rw[hlen,←hi,←List.take_add]
   congr 1
   apply UInt8.toNat_inj.1
   rw[Y3 _ (by omega) (by omega)]
   by_cases hb:x.toNat/32%2=1
   ·rw[show(x.toNat/32%2==1)=true from beq_iff_eq.2 hb,if_pos rfl];omega
   ·rw[show(x.toNat/32%2==1)=false from beq_eq_false_iff_ne.2 hb,if_neg (by simp)];omega
  ·rw[if_neg h2] at h;exact absurd h h2
structure Tv where
 c:Nat
 n:Nat
 k:Bool
 v:List UInt8
 deriving DecidableEq
def Tv.enc (t:Tv):List UInt8:=Ah t.c t.n t.k t.v
structure Tv.ok (t:Tv):Prop where
 c:t.c≤3
 n:t.n≤30
 v:t.v.length≤2147483647
def Tv.hd (t:Tv):Nat:=(Fm t.v.length).length+1
theorem Tv.len (t:Tv):t.enc.length=t.hd+t.v.length:=by
 unfold Tv.enc Tv.hd Ah Kb
 rw[Ag,Ap];omega
theorem Tv.body (t:Tv):t.enc.drop t.hd=t.v:=by
 unfold Tv.enc Tv.hd Ah Kb
 rw[List.drop_succ_cons,List.drop_left]
theorem Tv.hd_pos (t:Tv) (h:t.ok):2≤t.hd:=by have:=I9 _ h.v;unfold Tv.hd;omega
theorem Tv.rh {t:Tv} (h:t.ok) (rest:List UInt8):rhS (t.enc++rest)=⟨t.c,t.n,t.k,t.v.length,t.hd,0,0⟩:=GH t.v rest h.c h.n h.v
theorem Tv.inj {t u:Tv} (ht:t.ok) (hu:u.ok) {r s:List UInt8} (h:t.enc++r=u.enc++s):t=u∧r=s:=by
 have h1:=Tv.rh ht r
 have h2:=Tv.rh hu s
 rw[h] at h1
 rw[h1] at h2
 injection h2 with e1 e2 e3 e4 e5
 have hb:t.enc=u.enc:=by
  have:=congrArg (List.take t.enc.length) h
  rw[List.take_left,show t.enc.length=u.enc.length by rw[Tv.len,Tv.len];omega,List.take_left] at this
  exact this
 have hv:t.v=u.v:=by rw[←t.body,←u.body,hb,show t.hd=u.hd from e5]
 obtain⟨a,b,c,d⟩:=t
 obtain⟨a',b',c',d'⟩:=u
 simp only at e1 e2 e3 hv
 subst e1 e2 e3 hv
 exact⟨rfl,List.append_cancel_left h⟩
def Tv.el (at':Nat) (t:Tv):El:=⟨t.c,t.n,t.k,at',at'+t.hd,at'+t.enc.length⟩
theorem oS {b pre rest:List UInt8} {t:Tv} {en:Nat} (ht:t.ok) (hb:b.take en=pre++(t.enc++rest)) (hen:en≤b.length):nxS b pre.length en=⟨t.el pre.length,0,0⟩:=by
 have hd:(b.drop pre.length).take (en-pre.length)=t.enc++rest:=by
  rw[←List.drop_take,hb,List.drop_left]
 have hl:en=pre.length+(t.enc++rest).length:=by
  have:=congrArg List.length hb
  rw[Al,Ap] at this;omega
 rw[Ap] at hl
 have hr:=Tv.rh ht rest
 rw[←hd] at hr
 rw[yK hr rfl (by have:=t.len;show t.hd+t.v.length≤_;omega)]
 simp only[Tv.el,Tv.len,Nat.add_assoc]
theorem oT {b:List UInt8} {at' en:Nat} (h1:at'≤en) (h2:en≤b.length) (h:(nxS b at' en).code=0):∃t:Tv,t.ok∧(nxS b at' en).x=t.el at'∧(b.drop at').take (en-at')=t.enc++(b.drop (at'+t.enc.length)).take (en-(at'+t.enc.length))∧at'+t.enc.length≤en:=by
 have hlen:((b.drop at').take (en-at')).length=en-at':=by rw[Al,Az];omega
 have hB:=Em ((b.drop at').take (en-at'))
 unfold nxS at h⊢
 by_cases k1:(rhS ((b.drop at').take (en-at'))).code≠0
 ·rw[if_pos k1] at h;exact absurd h k1
 rw[if_neg k1] at h⊢
 by_cases k2:en-at'<(rhS ((b.drop at').take (en-at'))).size+(rhS ((b.drop at').take (en-at'))).len
 ·rw[if_pos k2] at h;cases h
 rw[if_neg k2]
 have hi:=oR (Decidable.not_not.1 k1) (by rw[hlen];omega)
 have hb:=hB.1 (Decidable.not_not.1 k1)
 generalize hL:(b.drop at').take (en-at')=L at hi hB hb k2 hlen⊢
 generalize hh:rhS L=hd at hi hB hb k2⊢
 obtain⟨-,c2,c3,c4,c5,c6,c7⟩:=hB
 have hv:((L.drop hd.size).take hd.len).length=hd.len:=by rw[Al,Az];omega
 refine⟨⟨hd.c,hd.n,hd.k,(L.drop hd.size).take hd.len⟩,⟨c6,c7,by rw[hv];exact c4⟩,?_,?_,?_⟩
 ·have hl:=congrArg List.length hi
  rw[Al] at hl
  have hl2:=Tv.len ⟨hd.c,hd.n,hd.k,(L.drop hd.size).take hd.len⟩
  have hl3:(Tv.enc ⟨hd.c,hd.n,hd.k,(L.drop hd.size).take hd.len⟩).length=hd.size+hd.len:=by
   show(Ah hd.c hd.n hd.k ((L.drop hd.size).take hd.len)).length=_
   omega
  have hl4:Tv.hd ⟨hd.c,hd.n,hd.k,(L.drop hd.size).take hd.len⟩=hd.size:=by rw[hl3] at hl2;simp only[hv] at hl2;omega
  simp only[Tv.el,hl3,hl4,Nat.add_assoc]
 ·have hl:=congrArg List.length hi
  rw[Al] at hl
  show L=Ah hd.c hd.n hd.k ((L.drop hd.size).take hd.len)++(b.drop (at'+(Ah hd.c hd.n hd.k ((L.drop hd.size).take hd.len)).length)).take (en-(at'+(Ah hd.c hd.n hd.k ((L.drop hd.size).take hd.len)).length))
  rw[←hi,Al]
  conv=>lhs;rw[←List.take_append_drop (hd.size+hd.len) L]
  congr 1
  rw[←hL,List.drop_take,List.drop_drop,hL,show min (hd.size+hd.len) L.length=hd.size+hd.len by omega]
  congr 1
  omega
 ·have hl:=congrArg List.length hi
  rw[Al] at hl
  show at'+(Ah hd.c hd.n hd.k ((L.drop hd.size).take hd.len)).length≤en
  omega
theorem H8 {t:Tv} (ht:t.ok):Bj t.enc=⟨t.el 0,0,0⟩:=by
 have h:=oS (b:=t.enc) (pre:=[]) (rest:=[]) (en:=t.enc.length) ht (by simp) (Nat.le_refl _)
 rw[List.length_nil] at h
 unfold Bj
 rw[h,if_neg]
 rintro⟨-,h2⟩
 simp only[Tv.el] at h2
 omega
theorem Qw {b:List UInt8} (h:(Bj b).code=0):∃t:Tv,t.ok∧Bj b=⟨t.el 0,0,0⟩∧b=t.enc:=by
 have hF:=(D9 b).1 h
 unfold Bj at h hF⊢
 by_cases k:(nxS b 0 b.length).code=0∧(nxS b 0 b.length).x.stop<b.length
 ·rw[if_pos k] at h;cases h
 rw[if_neg k] at h hF⊢
 obtain⟨t,h1,h2,h3,h4⟩:=oT (Nat.zero_le _) (Nat.le_refl _) h
 have hs:=hF.2.2.2.1
 rw[h2] at hs
 simp only[Tv.el,Nat.zero_add] at hs
 refine⟨t,h1,?_,?_⟩
 ·generalize nxS b 0 b.length=r at h h2 hF
  obtain⟨x,c,o⟩:=r
  simp only at h h2 hF
  rw[h,h2,hF.2.2.2.2]
 ·rw[List.drop_zero,Nat.sub_zero,List.take_length,hs,Nat.zero_add,Nat.sub_self,List.take_zero,List.append_nil] at h3
  exact h3
def C6 (ts:List Tv):List UInt8:=ts.flatMap Tv.enc
def els:Nat→List Tv→List El
 |_,[]=>[]
 |at',t::r=>t.el at'::els (at'+t.enc.length) r
theorem Df (t:Tv) (r:List Tv):C6 (t::r)=t.enc++C6 r:=List.flatMap_cons
theorem enc_pos {t:Tv} (h:t.ok):2≤t.enc.length:=by have:=t.hd_pos h;rw[Tv.len];omega
theorem N4:∀(ts:List Tv) (b pre:List UInt8) (en:Nat),(∀t∈ts,t.ok)→b.take en=pre++C6 ts→en≤b.length→Cv b pre.length en=⟨els pre.length ts,0,0⟩
 |[],b,pre,en,_,hb,hen=>by
  have:=congrArg List.length hb
  rw[Al,Ap] at this
  rw[Rv (by show¬pre.length<en;simp[C6] at this;omega)];rfl
 |t::r,b,pre,en,ht,hb,hen=>by
  have h0:=ht t (by simp)
  rw[Df] at hb
  have hx:=oS h0 hb hen
  have hl:=congrArg List.length hb
  rw[Al,Ap,Ap] at hl
  have hp:=enc_pos h0
  have ih:=N4 r b (pre++t.enc) en (fun u hu=>ht u (by simp[hu])) (by rw[hb,List.append_assoc]) hen
  rw[Ap] at ih
  have hst:(nxS b pre.length en).x.stop=pre.length+t.enc.length:=by rw[hx];rfl
  rw[Pd hen (by omega) (by rw[hx]),hst,ih,if_neg (by simp),hx];rfl
theorem R2:∀(f:Nat) (b:List UInt8) (at' en:Nat),en-at'≤f→at'≤en→en≤b.length→(Cv b at' en).code=0→∃ts:List Tv,(∀t∈ts,t.ok)∧Cv b at' en=⟨els at' ts,0,0⟩∧(b.drop at').take (en-at')=C6 ts
 |f,b,at',en,hf,h1,h2,h=>by
  by_cases hlt:at'<en
  ·by_cases k:(nxS b at' en).code≠0
   ·rw[Ym hlt k] at h;exact absurd h k
   ·have k':=Decidable.not_not.1 k
    obtain⟨t,t1,t2,t3,t4⟩:=oT h1 h2 k'
    have hp:=enc_pos t1
    have hs:=Pd h2 hlt k'
    have hst:(nxS b at' en).x.stop=at'+t.enc.length:=by rw[t2];rfl
    rw[hst] at hs
    by_cases k3:(Cv b (at'+t.enc.length) en).code≠0
    ·rw[hs,if_pos k3] at h;exact absurd h k3
    ·match f,hf with
     |0,hf=>omega
     |f+1,hf=>
      obtain⟨ts,e1,e2,e3⟩:=R2 f b (at'+t.enc.length) en (by omega) t4 h2 (Decidable.not_not.1 k3)
      refine⟨t::ts,fun u hu=> ?_,?_,?_⟩
      ·rcases List.mem_cons.1 hu with rfl|hu
       ·exact t1
       ·exact e1 u hu
      ·rw[hs,if_neg k3,e2,t2];rfl
      ·rw[t3,e3];rfl
  ·refine⟨[],by simp,?_,?_⟩
   ·rw[Rv hlt];rfl
   ·rw[show en-at'=0 by omega];rfl
end Go.Proofs.YtokmjjkbginodaaGreatDoor
