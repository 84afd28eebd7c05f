/- MI: the texts OidP Pre Str Oid Oid2 OidE OidL OidR OidS Tree Tree2 Tree3 Tree4 T T2 T3 Ref10 Pl, one behind the other. No condition but what each lemma says. -/
import Derived.Lib.SplitLaws
import Derived.Lib.ParseIntBCases
import Derived.Test.YtaoahmplnckhpaaGreatDoorME
import Derived.Lib.ItoaMem
set_option maxRecDepth 100000
set_option maxHeartbeats 16000000
namespace Go.Proofs.YtaoahmplnckhpaaGreatDoor
open Go
def Fj:List UInt8→List (List UInt8)
 |[]=>[[]]
 |c::r=>if c=46 then []::Fj r else match Fj r with
  |p::ps=>(c::p)::ps
  |[]=>[[c]]
def Lo (cur:List UInt8):List UInt8→List (List UInt8)
 |[]=>[cur]
 |c::r=>if c=46 then cur::Lo [] r else Lo (cur++[c]) r
theorem Hu:∀s,∃p ps,Fj s=p::ps
 |[]=>⟨_,_,rfl⟩
 |c::r=>by
  obtain⟨p,ps,h⟩:=Hu r
  unfold Fj
  by_cases hc:c=46
  ·rw[if_pos hc];exact⟨_,_,rfl⟩
  ·rw[if_neg hc,h];exact⟨_,_,rfl⟩
theorem Rj:∀(s cur:List UInt8) {p ps},Fj s=p::ps→Lo cur s=(cur++p)::ps
 |[],cur,p,ps,h=>by
  rw[Fj] at h;cases h;rw[Lo,List.append_nil]
 |c::r,cur,p,ps,h=>by
  obtain⟨q,qs,h'⟩:=Hu r
  rw[Fj] at h
  rw[Lo]
  by_cases hc:c=46
  ·rw[if_pos hc] at h⊢
   cases h
   rw[Rj r [] h',List.append_nil,List.nil_append,h']
  ·rw[if_neg hc,h'] at h
   rw[if_neg hc,Rj r _ h']
   cases h
   simp
theorem lL (s:List UInt8):Lo [] s=Fj s:=by
 obtain⟨p,ps,h⟩:=Hu s
 rw[Rj s [] h,h];rfl
open Lib in
theorem Vr {c:UInt8} {r:List UInt8} (hc:c≠46):index (c::r) [46]=if index r [46]== -1 then-1 else index r [46]+1:=by
 rw[index];simp[List.isPrefixOf,Ne.symm hc]
open Lib in
theorem lM {c:UInt8} (hc:c≠46):∀(k:Nat) (r:List UInt8) {p ps},splitK [46] 0 k r=p::ps→splitK [46] 0 k (c::r)=(c::p)::ps
 |0,r,p,ps,h=>by rw[splitK] at h⊢;cases h;rfl
 |k+1,r,p,ps,h=>by
  have hx:=Vr (r:=r) hc
  have hg:=index_ge r [46]
  rw[splitK] at h⊢
  by_cases hm:index r [46]= -1
  ·rw[if_pos (beq_iff_eq.2 hm)] at h
   rw[if_pos (beq_iff_eq.2 hm)] at hx
   rw[if_pos (beq_iff_eq.2 hx)]
   cases h;rfl
  ·rw[if_neg (fun e=>hm (beq_iff_eq.1 e))] at h hx
   rw[if_neg (by rw[beq_iff_eq];omega),hx]
   cases h
   obtain⟨j,hj⟩:∃j:Nat,index r [46]=j:=⟨(index r [46]).toNat,by omega⟩
   rw[hj]
   rw[show((j:Int)+1).toNat=j+1 by omega,show(j:Int).toNat=j by omega]
   simp
open Lib in
theorem Rk:∀s:List UInt8,splitK [46] 0 (s.count 46) s=Fj s
 |[]=>rfl
 |c::r=>by
  obtain⟨p,ps,h⟩:=Hu r
  have ih:=Rk r
  rw[Fj]
  by_cases hc:c=46
  ·subst hc
   rw[if_pos rfl,List.count_cons_self,splitK]
   have hx:index (46::r) [46]=0:=by rw[index];simp[List.isPrefixOf]
   rw[if_neg (by rw[hx];decide),hx,←ih]
   simp
  ·rw[if_neg hc,h,List.count_cons_of_ne (fun e=>hc e),lM hc _ _ (ih.trans h)]
open Lib in
theorem Pc (s:List UInt8):splitB ⟨#[46]⟩ 0 (countB ⟨⟨s⟩⟩ ⟨#[46]⟩) ⟨⟨s⟩⟩=(Fj s).map fun p=>⟨⟨p⟩⟩:=by
 have h1:=splitB_data ⟨#[46]⟩ 0 (countB ⟨⟨s⟩⟩ ⟨#[46]⟩) ⟨⟨s⟩⟩
 have h2:countB ⟨⟨s⟩⟩ ⟨#[46]⟩=s.count 46:=count_one 46 s
 rw[h2] at h1⊢
 rw[show splitK ((⟨#[46]⟩:ByteArray).data.toList) 0 (s.count 46) ((⟨⟨s⟩⟩:ByteArray).data.toList)=Fj s from Rk s] at h1
 rw[←h1,List.map_map]
 conv=>lhs;rw[←List.map_id (splitB ⟨#[46]⟩ 0 (s.count 46) ⟨⟨s⟩⟩)]
 exact List.map_congr_left fun x _=>rfl
def Lh (l:List UInt8):Option Nat:=match Lib.parseUintB 32 l with
 | .ok u=>if Lib.decDigits u=l then some u else none
 |_=>none
theorem Nc {u:Nat} (h:u<10):(UInt8.ofNat (48+u)).toNat=48+u:=by rw[UInt8.toNat_ofNat'];omega
theorem fZ:∀(n:Nat) (b:UInt8),b∈Lib.decDigits n→48≤b.toNat∧b.toNat≤57:=by
 intro n
 induction n using Nat.strongRecOn with
 |_ n ih=>
  intro b hb
  rw[Lib.decDigits] at hb
  by_cases h:n<10
  ·rw[dif_pos h,List.mem_singleton] at hb
   subst hb;rw[Nc h];omega
  ·rw[dif_neg h,List.mem_append,List.mem_singleton] at hb
   rcases hb with hb|hb
   ·exact ih (n/10) (by omega) b hb
   ·subst hb;rw[Nc (by omega)];omega
def Nd (acc:Nat) (l:List UInt8):Nat:=l.foldl (fun a c=>a*10+(c.toNat-48)) acc
theorem Iu (acc:Nat) (c:UInt8) (r:List UInt8):Nd acc (c::r)=Nd (acc*10+(c.toNat-48)) r:=by unfold Nd;rw[List.foldl_cons]
theorem Rl (acc:Nat):Nd acc []=acc:=rfl
theorem Yv (l m:List UInt8) (acc:Nat):Nd acc (l++m)=Nd (Nd acc l) m:=by unfold Nd;exact List.foldl_append
theorem Nf (n:Nat):Nd 0 (Lib.decDigits n)=n:=by
 induction n using Nat.strongRecOn with
 |_ n ih=>
  rw[Lib.decDigits]
  by_cases h:n<10
  ·rw[dif_pos h,Iu,Rl,Nc h];omega
  ·rw[dif_neg h,Yv,ih (n/10) (by omega),Iu,Rl,Nc (by omega)];omega
theorem Vs:∀(l:List UInt8) (acc:Nat),acc≤Nd acc l
 |[],_=>Nat.le_refl _
 |c::r,acc=>by
  have:=Vs r (acc*10+(c.toNat-48))
  rw[Iu];omega
open Lib in
theorem T2:∀(l:List UInt8) (acc:Nat),(∀b∈l,48≤b.toNat∧b.toNat≤57)→Nd acc l≤4294967295→parseUintM 4294967295 acc l= .ok (Nd acc l)
 |[],_,_,_=>rfl
 |c::r,acc,h1,h2=>by
  have hc:=h1 c (by simp)
  have hg:=Vs r (acc*10+(c.toNat-48))
  rw[Iu] at h2⊢
  rw[parseUintM,if_pos hc,if_neg (by omega),if_neg (by omega)]
  exact T2 r _ (fun b hb=>h1 b (by simp[hb])) h2
theorem rC (n:Nat):Lib.decDigits n≠[]:=by
 intro h
 have:=Lib.decDigits_length n
 have h2:=Lib.nDigits_pos n
 rw[h] at this;simp at this;omega
theorem rD {n:Nat} (h:n≤4294967295):Lh (Lib.decDigits n)=some n:=by
 have h1:=T2 (Lib.decDigits n) 0 (fZ n) (by rw[Nf];exact h)
 rw[Nf] at h1
 unfold Lh Lib.parseUintB
 rw[if_neg (rC n),show 2^32-1=4294967295 from rfl,h1]
 simp
theorem K6 {l:List UInt8} {n:Nat} (h:Lh l=some n):n≤4294967295∧Lib.decDigits n=l:=by
 unfold Lh at h
 split at h
 ·rename_i u hu
  split at h
  ·rename_i he
   cases h
   exact⟨by have:=Lib.parseUintB_le hu;omega,he⟩
  ·cases h
 ·cases h
def Cz:List Nat→Bool
 |x::y::_=>decide (x≤2)&&(if x<2 then decide (y<40) else decide (y≤4294967215))
 |_=>false
def Dh (ps:List (List UInt8)):Option (List Nat):=match ps with
 |[]=>some []
 |p::r=>match Lh p,Dh r with
  |some n,some l=>some (n::l)
  |_,_=>none
def D9 (s:List UInt8):Option (List Nat):=match Dh (Fj s) with
 |some a=>if Cz a then some a else none
 |none=>none
def Dn:List Nat→List UInt8
 |[]=>[]
 |[n]=>Lib.decDigits n
 |n::m::r=>Lib.decDigits n++46::Dn (m::r)
theorem Fg {a:List Nat} (h:Cz a=true):∃x y r,a=x::y::r∧x≤2∧(x<2→y<40)∧y≤4294967215:=by
 match a,h with
 |x::y::r,h=>
  rw[Cz,Ap,decide_eq_true_eq] at h
  refine⟨x,y,r,rfl,h.1,fun hx=> ?_,?_⟩
  ·have:=h.2;rw[if_pos hx,decide_eq_true_eq] at this;exact this
  ·have:=h.2
   by_cases hx:x<2
   ·rw[if_pos hx,decide_eq_true_eq] at this;omega
   ·rw[if_neg hx,decide_eq_true_eq] at this;exact this
theorem Rm:∀{ps:List (List UInt8)} {a:List Nat},Dh ps=some a→ps=a.map Lib.decDigits∧∀n∈a,n≤4294967295
 |[],a,h=>by rw[Dh] at h;cases h;simp
 |p::r,a,h=>by
  rw[Dh] at h
  split at h
  ·rename_i n l h1 h2
   cases h
   obtain⟨k1,k2⟩:=K6 h1
   obtain⟨k3,k4⟩:=Rm h2
   refine⟨by rw[List.map_cons,k2,←k3],fun m hm=> ?_⟩
   rcases List.mem_cons.1 hm with rfl|hm
   ·exact k1
   ·exact k4 m hm
  ·cases h
theorem lN:∀(s:List UInt8) (a:List Nat),Fj s=a.map Lib.decDigits→Dn a=s:=by
 intro s
 have gen:∀(s:List UInt8) (p:List UInt8) (ps:List (List UInt8)),Fj s=p::ps→s=p++(ps.flatMap fun q=>46::q):=by
  intro s
  induction s with
  |nil=>intro p ps h;rw[Fj] at h;cases h;rfl
  |cons c r ih=>
   intro p ps h
   obtain⟨q,qs,h'⟩:=Hu r
   have h2:=ih q qs h'
   rw[Fj] at h
   by_cases hc:c=46
   ·rw[if_pos hc,h'] at h
    cases h
    rw[List.nil_append,List.flatMap_cons,List.cons_append,←h2,hc]
   ·rw[if_neg hc,h'] at h
    cases h
    rw[List.cons_append,←h2]
 intro a h
 have tl:∀(m:Nat) (r:List Nat),Dn (m::r)=Lib.decDigits m++((r.map Lib.decDigits).flatMap fun q=>46::q):=by
  intro m r
  induction r generalizing m with
  |nil=>rw[Dn];simp
  |cons k r ih=>rw[Dn,ih k];simp
 match a,h with
 |[],h=>obtain⟨q,qs,h'⟩:=Hu s;rw[h'] at h;cases h
 |m::r,h=>rw[tl,←gen s _ _ h]
theorem F8 {s:List UInt8} {a:List Nat} (h:D9 s=some a):Cz a=true∧(∀n∈a,n≤4294967295)∧Dn a=s:=by
 unfold D9 at h
 split at h
 ·rename_i a' h1
  split at h
  ·rename_i h2
   cases h
   obtain⟨k1,k2⟩:=Rm h1
   exact⟨h2,k2,lN s a k1⟩
  ·cases h
 ·cases h
def B5 (last:Bool) (n:Nat):List UInt8:=
 if h:n<128 then [UInt8.ofNat (n%128+if last then 0 else 128)] else B5 false (n/128)++[UInt8.ofNat (n%128+if last then 0 else 128)]
termination_by n
decreasing_by omega
theorem C5 (l:Bool) {n:Nat} (h:n<128):B5 l n=[UInt8.ofNat (n%128+if l then 0 else 128)]:=by rw[B5,dif_pos h]
theorem Ez (l:Bool) {n:Nat} (h:¬n<128):B5 l n=B5 false (n/128)++[UInt8.ofNat (n%128+if l then 0 else 128)]:=by rw[B5,dif_neg h]
def Yw:List Nat→List UInt8
 |x::y::r=>B5 true (40*x+y)++r.flatMap (B5 true)
 |_=>[]
def Cc:Bool→Nat→List UInt8→Option (List Nat)
 |b,_,[]=>if b then none else some []
 |b,n,x::r=>if b=false∧x=128 then none else if n*128+x.toNat%128>4294967295 then none else if x.toNat<128 then(match Cc false 0 r with
  |some l=>some ((n*128+x.toNat%128)::l)
  |none=>none) else Cc true (n*128+x.toNat%128) r
def E8:List Nat→List Nat
 |[]=>[]
 |n::r=>min (n/40) 2::(n-40*min (n/40) 2)::r
theorem Vt {l:List Nat} (hl:l≠[]) (hb:∀n∈l,n≤4294967295):Cz (E8 l)=true∧(∀n∈E8 l,n≤4294967295)∧Yw (E8 l)=l.flatMap (B5 true):=by
 match l,hl with
 |n::r,_=>
  have hn:=hb n (by simp)
  refine⟨?_,?_,?_⟩
  ·rw[E8,Cz,Ap,decide_eq_true_eq]
   refine⟨by omega,?_⟩
   split<;>rw[decide_eq_true_eq]<;>omega
  ·intro m hm
   rw[E8,List.mem_cons,List.mem_cons] at hm
   rcases hm with rfl|rfl|hm
   ·omega
   ·omega
   ·exact hb m (by simp[hm])
  ·rw[E8,Yw,show 40*min (n/40) 2+(n-40*min (n/40) 2)=n by omega];rfl
def Yx (c:List UInt8):Option (List Nat):=match Cc false 0 c with
 |some (n::r)=>some (E8 (n::r))
 |_=>none
theorem wR (l:Bool) (n:Nat):B5 l n≠[]:=by
 rw[B5];split<;>simp
theorem EC {n:Nat}:(UInt8.ofNat (n%128+if true=true then 0 else 128)).toNat=n%128:=by
 rw[if_pos rfl,UInt8.toNat_ofNat'];omega
theorem BH {n:Nat}:(UInt8.ofNat (n%128+if false=true then 0 else 128)).toNat=n%128+128:=by
 rw[if_neg (by simp),UInt8.toNat_ofNat'];omega
theorem dC:∀(n:Nat) (r:List UInt8),1≤n→n≤4294967295→Cc false 0 (B5 false n++r)=Cc true n r:=by
 intro n
 induction n using Nat.strongRecOn with
 |_ n ih=>
  intro r h1 h2
  have hx:=BH (n:=n)
  by_cases h:n<128
  ·rw[C5 _ h]
   generalize UInt8.ofNat (n%128+if false=true then 0 else 128)=x at hx
   rw[List.singleton_append,Cc,if_neg (by rintro⟨-,rfl⟩;simp at hx;omega),if_neg (by omega),if_neg (by omega)]
   rw[show 0*128+x.toNat%128=n by omega]
  ·rw[Ez _ h,List.append_assoc,List.singleton_append,ih (n/128) (by omega) _ (by omega) (by omega)]
   generalize UInt8.ofNat (n%128+if false=true then 0 else 128)=x at hx
   rw[Cc,if_neg (by simp),if_neg (by omega),if_neg (by omega)]
   rw[show n/128*128+x.toNat%128=n by omega]
theorem lO (n:Nat) (r:List UInt8) (h2:n≤4294967295):Cc false 0 (B5 true n++r)=(Cc false 0 r).map (n:: ·):=by
 have hx:=EC (n:=n)
 by_cases h:n<128
 ·rw[C5 _ h]
  generalize UInt8.ofNat (n%128+if true=true then 0 else 128)=x at hx
  rw[List.singleton_append,Cc,if_neg (by rintro⟨-,rfl⟩;simp at hx;omega),if_neg (by omega),if_pos (by omega)]
  rw[show 0*128+x.toNat%128=n by omega]
  cases Cc false 0 r<;>rfl
 ·rw[Ez _ h,List.append_assoc,List.singleton_append,dC _ _ (by omega) (by omega)]
  generalize UInt8.ofNat (n%128+if true=true then 0 else 128)=x at hx
  rw[Cc,if_neg (by simp),if_neg (by omega),if_pos (by omega)]
  rw[show n/128*128+x.toNat%128=n by omega]
  cases Cc false 0 r<;>rfl
theorem T3:∀(l:List Nat),(∀n∈l,n≤4294967295)→Cc false 0 (l.flatMap (B5 true))=some l
 |[],_=>rfl
 |n::r,h=>by
  rw[List.flatMap_cons,lO n _ (h n (by simp)),T3 r (fun m hm=>h m (by simp[hm]))];rfl
theorem L5:∀(c:List UInt8) (b:Bool) (n:Nat) (l:List Nat),n≤4294967295→(b=true→1≤n)→(b=false→n=0)→Cc b n c=some l→(if b then B5 false n else [])++c=l.flatMap (B5 true)∧∀m∈l,m≤4294967295
 |[],b,n,l,_,_,_,h=>by
  cases b
  ·rw[Cc] at h;cases h;simp
  ·rw[Cc] at h;cases h
 |x::r,b,n,l,hn,hb,hb0,h=>by
  rw[Cc] at h
  have hxl:=x.toNat_lt
  by_cases h1:b=false∧x=128
  ·rw[if_pos h1] at h;cases h
  rw[if_neg h1] at h
  by_cases h2:n*128+x.toNat%128>4294967295
  ·rw[if_pos h2] at h;cases h
  rw[if_neg h2] at h
  have hx0:b=false→x.toNat≠128:=fun e e'=>h1 ⟨e,by
   apply UInt8.toNat_inj.1;simpa using e'⟩
  have e1:∀last:Bool,(if last then x.toNat<128 else 128≤x.toNat)→B5 last (n*128+x.toNat%128)=(if b then B5 false n else [])++[x]:=by
   intro last hlast
   have hx:UInt8.ofNat ((n*128+x.toNat%128)%128+if last=true then 0 else 128)=x:=by
    apply UInt8.toNat_inj.1
    rw[UInt8.toNat_ofNat']
    cases last<;>simp at hlast⊢ <;>omega
   cases b
   ·have:=hb0 rfl
    subst this
    rw[C5 _ (by omega),hx];rfl
   ·have:=hb rfl
    rw[Ez _ (by omega),hx,show(n*128+x.toNat%128)/128=n by omega];rfl
  by_cases h3:x.toNat<128
  ·rw[if_pos h3] at h
   split at h
   ·rename_i l' hl'
    cases h
    obtain⟨k1,k2⟩:=L5 r false 0 l' (by omega) (by simp) (fun _=>rfl) hl'
    rw[List.flatMap_cons,←k1,e1 true (by simpa using h3)]
    refine⟨by simp,fun m hm=> ?_⟩
    rcases List.mem_cons.1 hm with rfl|hm
    ·omega
    ·exact k2 m hm
   ·cases h
  ·rw[if_neg h3] at h
   have hm:1≤n*128+x.toNat%128:=by
    cases b
    ·have:=hx0 rfl;omega
    ·have:=hb rfl;omega
   obtain⟨k1,k2⟩:=L5 r true _ l (by omega) (fun _=>hm) (by simp) h
   refine⟨?_,k2⟩
   rw[←k1,if_pos rfl,e1 false (by simpa using h3)]
   simp
theorem lP {x y:Nat} {r:List Nat} (h:Cz (x::y::r)=true):E8 ((40*x+y)::r)=x::y::r:=by
 obtain⟨x',y',r',e,h1,h2,h3⟩:=Fg h
 cases e
 rw[E8]
 have:min ((40*x+y)/40) 2=x:=by
  by_cases hx:x<2
  ·have:=h2 hx;omega
  ·omega
 rw[this,show 40*x+y-40*x=y by omega]
theorem rE {a:List Nat} (h:Cz a=true) (hb:∀n∈a,n≤4294967295):Yx (Yw a)=some a:=by
 obtain⟨x,y,r,rfl,h1,h2,h3⟩:=Fg h
 have:=T3 ((40*x+y)::r) (fun m hm=>by
  rcases List.mem_cons.1 hm with rfl|hm
  ·by_cases hx:x<2
   ·have:=h2 hx;omega
   ·omega
  ·exact hb m (by simp[hm]))
 rw[List.flatMap_cons] at this
 rw[Yw,Yx,this]
 simp only[lP h]
def Cd (s:List UInt8):List UInt8:=match D9 s with
 |some a=>Yw a
 |none=>[]
def Yy (s:List UInt8):Nat:=match D9 s with
 |some _=>0
 |none=>8
def odT (c:List UInt8):List UInt8:=match Yx c with
 |some a=>Dn a
 |none=>[]
def odC (c:List UInt8):Nat:=match Yx c with
 |some _=>0
 |none=>6
def E0 (s:List UInt8):Bool:=(D9 s).isSome
theorem Oi (s:List UInt8):E0 s=true↔Yy s=0:=by
 unfold E0 Yy;cases D9 s<;>simp
theorem dD {s:List UInt8} (h:E0 s=true):odT (Cd s)=s∧odC (Cd s)=0:=by
 obtain⟨a,ha⟩:=Option.isSome_iff_exists.1 h
 obtain⟨k1,k2,k3⟩:=F8 ha
 have:=rE k1 k2
 unfold odT odC Cd
 rw[ha]
 simp only[this]
 exact⟨k3,trivial⟩
end Go.Proofs.YtaoahmplnckhpaaGreatDoor
namespace Go.Proofs.YtaoahmplnckhpaaGreatDoor
open Go.RowKit
def Rn:Nat→Code→List Code
 |n+1,.seq x y=>x::Rn n y
 |_,_=>[]
def Pd:Nat→Code→Code
 |n+1,.seq _ y=>Pd n y
 |_,c=>c
def rF:List Code→Code→Code
 |[],c=>c
 |x::r,c=> .seq x (rF r c)
theorem Yz:∀(n:Nat) (c:Code),rF (Rn n c) (Pd n c)=c
 |0,c=>by cases c<;>rfl
 |n+1,c=>by
  cases c with
  |seq x y=>show Code.seq x (rF (Rn n y) (Pd n y))=_;rw[Yz n y]
  |_=>rfl
def wS (P:Program) (C:Cx):List Code→(AS→Prop)→AS→Prop
 |[],K,σ=>K σ
 |x::r,K,σ=>Cj P C x (nx (wS P C r K) (fun _ _=>False)) σ
theorem gA {P:Program} {C:Cx} {B:Code} {Q:Exit→Act→World→Prop} {K:AS→Prop}:∀{xs:List Code} {σ:AS} {a:Act} {w:World},wS P C xs K σ→G C σ a w→(∀σ' a' w',K σ'→G C σ' a' w'→B.wp P Q a' w')→(rF xs B).wp P Q a w
 |[],σ,a,w,h,hG,k=>k σ a w h hG
 |x::r,σ,a,w,h,hG,k=>wp_seq (wp_mono (h a w hG) fun e a' w' ⟨σ',h1,h2⟩=>by
   cases e with
   |normal=>exact gA (xs:=r) h1 h2 k
   |_=>exact h1.elim)
noncomputable def gB (P:Program) (C:Cx) (T:Tab):List Code→KS→KS
 |[],K=>K
 |x::r,K=>G9 P C T x (gB P C T r K) (fun _ _ _ _=>False) (fun _ _ _=>False)
theorem Y0 {P:Program} {C:Cx} {T:Tab} (hT:TabOk P T) (hm:P.follows .mixedOrders=true):∀{xs:List Code} {K:KS} {tm:TM} {bx:BX} {tk:TK},gB P C T xs K tm bx tk→wS P C xs (fun σ=>K σ.tm σ.bx σ.tk) ⟨tm,bx,tk⟩
 |[],K,tm,bx,tk,h=>h
 |x::r,K,tm,bx,tk,h=>Ei (Pz hT hm x _ _ _ _ _ _ h) fun e σ he=>by
   cases e with
   |normal=>exact Y0 (xs:=r) hT hm he
   |exit id=>exact False.elim he
   |ret=>exact False.elim he
   |goto l=>exact he.elim
   |panic c=>exact he.elim
   |_=>first|exact he.elim|exact he
theorem GG.act {C:Cx} {bm:BM} {gt:Nat→Value} {fp:Nat→Nat→Prop} {σ σ':AS} {a a':Act} {w:World} (h:GG C bm gt fp σ a w) (hsz:a'.tmps.size=C.N) (hdf:a'.defers=[]) (hb:σ'.bx=σ.bx) (hk:σ'.tk=σ.tk)
 (ht:∀t u,lk t σ'.tm=some u→∃v,C.val a' t=some v∧RA C.W.heap.size fp w bm gt u v):GG C bm gt fp σ' a' w:=by
 obtain⟨tm,bx,tk⟩:=σ'
 simp only at hb hk
 subst hb hk
 exact{sz:=hsz,nN:=h.nN,gd:=h.gd,za:=h.za,zb:=h.zb,zf:=h.zf,ztk:=h.ztk,df:=hdf,tm:=ht,bx:=h.bx,bxi:=h.bxi,tk:=h.tk,tki:=h.tki,tkb:=h.tkb,fpb:=h.fpb,fp0:=h.fp0,fpB:=h.fpB,bel:=h.bel}
def Ro (all:List AV):List Nat→TM
 |[]=>[]
 |i::r=>match all[i]? with
  |some u=>(i,u)::Ro all r
  |none=>Ro all r
def rG (vs:List Value) (tm:TM):List Nat→Prop
 |[]=>True
 |i::r=>(∃v,vs[i]?=some v∧lk i tm=some (.d (.v v)))∧rG vs tm r
theorem Rp {all:List AV} {t:Nat} {u:AV}:∀{l:List Nat},lk t (Ro all l)=some u→t∈l∧all[t]?=some u
 |[],h=>by cases h
 |i::r,h=>by
  unfold Ro at h
  cases hi:all[i]? with
  |none=>
   rw[hi] at h
   obtain⟨h1,h2⟩:=Rp (l:=r) h
   exact⟨List.mem_cons_of_mem _ h1,h2⟩
  |some x=>
   rw[hi] at h
   by_cases e:i=t
   ·subst e
    rw[Bl] at h;cases h
    exact⟨by simp,hi⟩
   ·rw[B8 _ _ e] at h
    obtain⟨h1,h2⟩:=Rp (l:=r) h
    exact⟨List.mem_cons_of_mem _ h1,h2⟩
theorem T4 {vs:List Value} {tm:TM} {t:Nat}:∀{l:List Nat},rG vs tm l→t∈l→∃v,vs[t]?=some v∧lk t tm=some (.d (.v v))
 |[],_,h=>by simp at h
 |i::r,hk,h=>by
  rcases List.mem_cons.1 h with rfl|h
  ·exact hk.1
  ·exact T4 hk.2 h
def Y1:List AV→List Value→Prop
 |[],[]=>True
 |u::us,v::vs=>(match u with
  | .d (.v x)=>v=x
  |_=>True)∧Y1 us vs
 |_,_=>False
theorem Y2 {B:Nat} {fp:Nat→Nat→Prop} {w:World} {bm:BM} {gt:Nat→Value}:∀{us:List AV} {vs:List Value},vs.length=us.length→(∀(i:Nat) u v,us[i]?=some u→vs[i]?=some v→RA B fp w bm gt u v)→Y1 us vs
 |[],[],_,_=>trivial
 |u::us,v::vs,hl,h=>by
  refine⟨?_,Y2 (by simpa using hl) fun i x y hx hy=>h (i+1) x y (by simpa using hx) (by simpa using hy)⟩
  have h0:=h 0 u v rfl rfl
  split
  ·rename_i x;exact h0.val
  ·trivial
 |[],_::_,hl,_=>by simp at hl
 |_::_,[],hl,_=>by simp at hl
def Rq:Nat→List Value→TM
 |_,[]=>[]
 |i,v::vs=>(i,.d (.v v))::Rq (i+1) vs
theorem Y3 {t:Nat} {u:AV}:∀(vs:List Value) (i:Nat),lk t (Rq i vs)=some u→i≤t∧∃v,vs[t-i]?=some v∧u= .d (.v v)
 |[],_,h=>by cases h
 |x::vs,i,h=>by
  simp only[Rq,lk] at h
  cases hb:Nat.beq i t with
  |true=>rw[hb] at h;cases h;obtain rfl:=Nat.eq_of_beq_eq_true hb;exact⟨Nat.le_refl _,x,by simp,rfl⟩
  |false=>
   rw[hb] at h
   obtain⟨h1,v,h2,h3⟩:=Y3 vs (i+1) h
   refine⟨by omega,v,?_,h3⟩
   have:t-i=(t-(i+1))+1:=by omega
   rw[this,List.getElem?_cons_succ];exact h2
def BI (vs:List Value) (keep:List Nat) (sl n sz:Nat) (e:TypeId) (ds:List D) (σ:AS):Prop:=∃κ,lk sl σ.tm=some (.own κ n sz e ds)∧lk κ σ.tk=some (n,sz,e)∧rG vs σ.tm keep
theorem wT {P:Program} {C:Cx} {o:Oper} {σ:AS} {bm:BM} {gt:Nat→Value} {fp:Nat→Nat→Prop} {a:Act} {w:World} (hg:GG C bm gt fp σ a w) (hd:∀t,o.dst=some t→t<C.N) {f:FuncId} {fn:Func} {c:Code} {us:List AV} {vs:List Value} {S:AS→Prop} (hf:P.funcs[f]?=some fn) (hb:fn.body=some c) (hn:fn.results.size≤4) (hN:us.length≤fn.ntmps) (hN6:fn.ntmps≤1000000) (hl:vs.length=us.length)
 (hr:∀(i:Nat) u v,us[i]?=some u→vs[i]?=some v→RA C.W.heap.size fp w bm gt u v) (k sl κ n sz:Nat) (e:TypeId) (ds:List D) (keep:List Nat) (hsl:sl<fn.ntmps) (hκ:(AS.mk (inT us σ.tm) σ.bx σ.tk).clean κ=true)
 (hA:∀vs,Y1 us vs→∀W fp0 z0,wS P ⟨W,fp0,fn.ntmps,fun _=>none,z0⟩ (Rn k c) (BI vs keep sl n sz e ds) ⟨Rq 0 vs,[],[]⟩)
 (hB:∀gh,Cj P ⟨C.W,C.fp0,fn.ntmps,gh,C.z0⟩ (Pd k c) (oR P fn.results.toList o.dst S) ⟨(sl,.own κ n sz e ds)::(Ro us keep++ghM 1000000 σ.tm),σ.bx,(κ,n,sz,e)::σ.tk⟩) {K:Act→World→Prop} {Q:Exit→Act→World→Prop} (hK:∀σ' a' w',S σ'→G C σ' a' w'→K a' w'):
 o.upon P a K Q (.ok (.enter f vs.toArray) w):=by
 rw[Oper.upon_enter]
 have hcalls:Calls P f vs.toArray w fun e w'=>∃v σ' u,e= .returned v∧S (σ'.ret o.dst u)∧∃bm gt fp a',GG (Cx.inn 1000000 C fn.ntmps a) bm gt fp σ' a' w'∧RA C.W.heap.size fp w' bm gt u v:=by
  refine calls_of_wp hf hb ?_
  have hGin:=hg.inn (M:=1000000) rfl (us:=us) (vs:=vs) hN6 hl hN hr
  have hG0:G ⟨w,fp,fn.ntmps,fun _=>none,bm.z⟩ ⟨Rq 0 vs,[],[]⟩ {tmps:=vs.toArray++Array.replicate (fn.ntmps-vs.toArray.size) undef,defers:=[]} w:=by
   refine⟨⟨fun _=>0,bm.z⟩,fun _=>undef,fp,{sz:= ?_,nN:=hN6,gd:=hg.gdw,za:=fun _ _ x=>x,zb:=fun _ _ x=> .inl x,zf:=hg.zf,ztk:=fun k x hk=>(by cases hk),df:=rfl,tm:=fun t u hu=> ?_,bx:=fun k cs hk=>(by cases hk),bxi:=fun k k' c c' hk=>(by cases hk),tk:=fun k n sz e hk=>(by cases hk),tki:=fun k k' x x' hk=>(by cases hk),tkb:=fun k k' x c hk=>(by cases hk),fpb:=fun b o hf=>⟨.inl hf,(hg.fpb b o hf).2⟩,fp0:=fun _ _ hf=>hf,fpB:=fun b o hf=>(hg.fpb b o hf).2,bel:=Below.refl _ _}⟩
   ·show _=fn.ntmps
    simp;omega
   ·obtain⟨_,v,h2,rfl⟩:=Y3 vs 0 hu
    rw[Nat.sub_zero] at h2
    have hlt:=(As.1 h2).1
    refine⟨v,?_,.d (.v v)⟩
    rw[Cx.val_lt (by omega),Array.getElem?_append_left (by simpa using hlt)]
    simpa using h2
  have hw:(rF (Rn k c) (Pd k c)).wp P (bodyPost P fn (fun e w'=>∃v σ' u,e= .returned v∧S (σ'.ret o.dst u)∧∃bm gt fp a',GG (Cx.inn 1000000 C fn.ntmps a) bm gt fp σ' a' w'∧RA C.W.heap.size fp w' bm gt u v)) {tmps:=vs.toArray++Array.replicate (fn.ntmps-vs.toArray.size) undef,defers:=[]} w:=by
   refine gA (hA vs (Y2 hl hr) w fp bm.z) hG0 ?_
   rintro σ1 a1 w1 ⟨κ1,k1,k2,k3⟩ ⟨bm1,gt1,fp1,hg1⟩
   obtain⟨v,hv,hra⟩:=hg1.tm sl _ k1
   have hres:Ms w fp bm.z w1 (.own 0 n sz e ds) v:=by
    refine⟨rfl,fp1,fun _=>gt1 κ1,bm1.z,hg1.fpb,?_,fun n' sz' e' ht=>by cases ht;exact⟨hg1.tk _ _ _ _ k2,hg1.ztk κ1 _ k2⟩,hg1.za,hg1.zf,hg1.zb⟩
    cases hra with|own hra=>exact .own (gt:=fun _=>gt1 κ1) (k:=0) hra
   obtain⟨bm2,gt2,fp2,hg2⟩:=hGin.back (t:=sl) (κ:=κ) hsl hκ hg1.bel hres
   have hg3:GG (Cx.inn 1000000 C fn.ntmps a) bm2 gt2 fp2 ⟨(sl,.own κ n sz e ds)::(Ro us keep++ghM 1000000 σ.tm),σ.bx,(κ,n,sz,e)::σ.tk⟩ a1 w1:=by
    refine hg2.act hg1.sz hg1.df rfl rfl fun t u hu=> ?_
    by_cases est:sl=t
    ·subst est
     rw[Bl] at hu
     cases hu
     obtain⟨v',q1,q2⟩:=hg2.tm sl (.own κ n sz e ds) (by show lk sl ((sl,_)::_)=_;rw[Bl];rfl)
     have e1:v'=v:=by
      rw[Cx.val_lt (by omega)] at q1
      simp only[Act.put] at q1
      have hh:sl<(vs.toArray++Array.replicate (fn.ntmps-vs.toArray.size) undef).size:=by simp;omega
      rw[Array.getElem?_setIfInBounds_self] at q1
      rw[if_pos hh] at q1
      exact(Option.some.inj q1).symm
     subst e1
     refine⟨v',?_,q2⟩
     rw[Cx.val_lt (by omega)] at hv⊢
     exact hv
    ·rw[B8 _ _ est] at hu
     rcases bV hu with hu|hu
     ·obtain⟨m1,m2⟩:=Rp hu
      have htl:=(As.1 m2).1
      obtain⟨x,x1,x2⟩:=T4 k3 m1
      obtain⟨y,y1,y2⟩:=hg1.tm t _ x2
      have exy:y=x:=y2.val
      subst exy
      have hin:lk t (inM 1000000 us σ.tm)=some u:=by
       have gen:∀(l:List AV) (i:Nat) (m:TM) (j:Nat),l[j]?=some u→lk (i+j) (Fp i l++m)=some u:=by
        intro l
        induction l with
        |nil=>intro i m j hj;simp at hj
        |cons q l ih=>
         intro i m j hj
         cases j with
         |zero=>simp at hj;subst hj;show lk i ((i,q)::_)=_;rw[Bl]
         |succ j=>
          show lk (i+(j+1)) ((i,q)::(Fp (i+1) l++m))=_
          rw[B8 _ _ (by omega),show i+(j+1)=i+1+j by omega]
          exact ih (i+1) m j (by simpa using hj)
       have:=gen us 0 (ghM 1000000 σ.tm) t m2
       rwa[Nat.zero_add] at this
      obtain⟨z,z1,z2⟩:=hg2.tm t u (by show lk t ((sl,_)::_)=_;rw[B8 _ _ est];exact hin)
      have hzx:z=y:=by
       rw[Cx.val_lt (by omega)] at z1
       simp only[Act.put] at z1
       rw[Array.getElem?_setIfInBounds_ne est,Array.getElem?_append_left (by simp;omega)] at z1
       have:vs[t]?=some z:=by simpa using z1
       rw[x1] at this;exact(Option.some.inj this).symm
      subst hzx
      refine⟨z,?_,z2⟩
      rw[Cx.val_lt (by omega)] at y1⊢
      exact y1
     ·obtain⟨g1,g2⟩:=bU hu
      have hin:lk t (inM 1000000 us σ.tm)=some u:=by
       have gen:∀(l:List AV) (i:Nat) (m:TM),i+l.length≤t→lk t (Fp i l++m)=lk t m:=by
        intro l
        induction l with
        |nil=>intro i m _;rfl
        |cons q l ih=>
         intro i m hle
         rw[Ag] at hle
         show lk t ((i,q)::(Fp (i+1) l++m))=_
         rw[B8 _ _ (by omega)]
         exact ih (i+1) m (by omega)
       show lk t (Fp 0 us++ghM 1000000 σ.tm)=_
       rw[gen us 0 _ (by omega)];exact hu
      obtain⟨z,z1,z2⟩:=hg2.tm t u (by show lk t ((sl,_)::_)=_;rw[B8 _ _ est];exact hin)
      exact⟨z,(Cx.val_ge g1).trans ((Cx.val_ge g1).symm.trans z1),z2⟩
   refine wp_mono (hB _ a1 w1 ⟨bm2,gt2,fp2,hg3⟩) fun e a1 w' ⟨σ',hΦ,bm',gt',fp',hg'⟩=> ?_
   have fin:(∃us,I7 P σ' fn.results.toList us∧S (σ'.ret o.dst (single us)))→bodyPost P fn (fun e w'=>∃v σ' u,e= .returned v∧S (σ'.ret o.dst u)∧∃bm gt fp a',GG (Cx.inn 1000000 C fn.ntmps a) bm gt fp σ' a' w'∧RA C.W.heap.size fp w' bm gt u v) .ret a1 w':=by
    rintro⟨us',h1,h2⟩
    obtain⟨v,hrun,hra⟩:=J3 hg' h1 hn
    exact⟨hg'.df,v,hrun,v,σ',single us',rfl,h2,bm',gt',fp',a1,hg',hra⟩
   cases e with
   |normal=>exact fin hΦ
   |ret=>exact fin hΦ
   |_=>exact hΦ.elim
  rw[Yz] at hw
  exact hw
 refine hcalls.mono ?_
 rintro e w' ⟨v,σ',u,rfl,hS,bm',gt',fp',a',hg',hra⟩
 simp only[]
 have ho:=hg'.out (M:=1000000) rfl hg.sz hg.nN hg.df
 refine hK _ _ _ hS ?_
 unfold AS.ret
 cases hdd:o.dst with
 |none=>exact⟨bm',gt',fp',ho⟩
 |some t=>exact⟨bm',gt',fp',ho.put (t:=t) (hd t hdd) hra⟩
theorem Rr {P:Program} {C:Cx} {T:Tab} {o:Oper} {tm:TM} {bx:BX} {tk:TK} {f:FuncId} {s:Nat} {fs cs:List AV} {fn:Func} {c:Code} {args:Array Operand} {ats:Array TypeId} {us:List AV} {K:KS} (k sl κ n sz:Nat) (e:TypeId) (ds:List D) (keep:List Nat) (off N:Nat) (rs:Array ResultVar) (hT:TabOk P T) (hm:P.follows .mixedOrders=true) (ho:o.op= .call {callee:= .value (.tmp s),args:=args,argTypes:=ats}) (hd:Tt o.dst C.N=true)
 (hv:evT tm (.tmp s)=some (.cl f fs cs)) (hu:evL ⟨tm,bx,tk⟩ args.toList=some us) (hf:P.funcs[f]?=some fn) (hN:fn.ntmps=N) (hn0:(fn.name== "runtime.NumGoroutine")=false) (hb:fn.body=some c) (hr:fn.results=rs) (hn:Nat.ble rs.size 4=true) (hA:(Nat.ble (fs++us++cs).length N&&Nat.ble N 1000000&&Nat.blt sl N)=true)
 (hκ:(AS.mk (inT (fs++us++cs) tm) bx tk).clean κ=true)
 (h1:∀vs,Y1 (fs++us++cs) vs→∀W fp0 z0,gB P ⟨W,fp0,N,fun _=>none,z0⟩ T (Rn k c) (fun tm bx tk=>BI vs keep sl n sz e ds ⟨tm,bx,tk⟩) (Rq 0 vs) [] [])
 (h2:∀gh,C4 ((sl,.own κ n sz e ds)::(Ro (fs++us++cs) keep++ghM 1000000 tm)) (fun tm=>G9 P ⟨C.W,C.fp0,N,gh,C.z0⟩ ⟨T.ty,T.fd,T.st,T.mu,off⟩ (Pd k c) (Il T rs o.dst K) (fun _ _ _ _=>False) (Il T rs o.dst K) tm bx ((κ,n,sz,e)::tk))):NStep P C o tm bx tk K:=by
 simp only[Ap] at hA
 subst hN hr
 refine⟨fun σ'=>K σ'.tm σ'.bx σ'.tk,?_,fun σ' h=>h⟩
 rintro a w ⟨bm,gt,fp,hg⟩ K' Q hK
 obtain⟨hl,hr⟩:=hg.evA hu
 have hv0:=hg.eval (x:= .tmp s) (A3 hv)
 generalize hvv:a.eval (.tmp s)=v at hv0
 cases hv0 with
 |cl ms ns h3 h4 h6 h7=>
  have hrun:(execOp a.eval o).run P w= .ok (.enter f (ms++args.toList.map a.eval++ns).toArray) w:=by
   simp only[execOp,ho,resolve,hvv,Deferred.ofValue,invoke,Sem.run_bind,Sem.run_pure,Result.andThen_ok,J4 hf hn0 hb]
   obtain⟨l⟩:=args
   simp
  unfold Oper.wp
  rw[hrun]
  have app:∀{l1 l2:List AV} {m1 m2:List Value},m1.length=l1.length→m2.length=l2.length→(∀(i:Nat) u v,l1[i]?=some u→m1[i]?=some v→RA C.W.heap.size fp w bm gt u v)→(∀(i:Nat) u v,l2[i]?=some u→m2[i]?=some v→RA C.W.heap.size fp w bm gt u v)→∀(i:Nat) u v,(l1++l2)[i]?=some u→(m1++m2)[i]?=some v→RA C.W.heap.size fp w bm gt u v:=by
   intro l1 l2 m1 m2 e1 e2 r1 r2 i u v hu hv
   by_cases hi:i<l1.length
   ·rw[List.getElem?_append_left hi] at hu
    rw[List.getElem?_append_left (by omega)] at hv
    exact r1 i u v hu hv
   ·rw[List.getElem?_append_right (by omega)] at hu
    rw[List.getElem?_append_right (by omega)] at hv
    rw[e1] at hv
    exact r2 _ u v hu hv
  refine wT (us:=fs++us++cs) hg (fun t ht=>by unfold Tt at hd;rw[ht] at hd;exact ltN hd) hf hb (leN hn) (leN hA.1.1) (leN hA.1.2) ?_ (app (by rw[Aj,Aj,h3,hl]) h4 (app h3 hl h6 hr) h7) k sl κ n sz e ds keep (ltN hA.2) hκ (fun vs hvs W fp0 z0=>Y0 hT hm (h1 vs hvs W fp0 z0)) (fun gh=> ?_) hK
  ·simp only[Aj];omega
  ·have hg:=Bs (K:=fun tm=>G9 P ⟨C.W,C.fp0,fn.ntmps,gh,C.z0⟩ ⟨T.ty,T.fd,T.st,T.mu,off⟩ (Pd k c) (Il T fn.results o.dst K) (fun _ _ _ _=>False) (Il T fn.results o.dst K) tm bx ((κ,n,sz,e)::tk)) (h2 gh)
   refine Ei (Pz (T:=⟨T.ty,T.fd,T.st,T.mu,off⟩) ⟨hT.ty,hT.fd,hT.st⟩ hm (Pd k c) _ _ _ _ _ _ hg) fun e σ he=> ?_
   cases e with
   |normal=>exact My hT he
   |exit id=>exact False.elim he
   |ret=>exact My hT he
   |goto l=>exact he.elim
   |panic c=>exact he.elim
   |_=>first|exact he.elim|exact he
abbrev sx (l:List UInt8):AV:= .d (.v (.string ⟨⟨l⟩⟩))
def S6 (l:List UInt8):List D:=[.v (.string ⟨⟨l⟩⟩)]
def Rs (t:Bool) (ps:List (List UInt8)):D:=Ey t 1 S6 ps
theorem Ka (t:Bool) (ps:List (List UInt8)):(Rs t ps).un=Rs false ps:=H5 (fun _=>rfl) t 1 ps
theorem Y4 (ps:List (List UInt8)) (i:Nat):(ps.flatMap S6)[i]?=(ps[i]?).map fun p=>D.v (.string ⟨⟨p⟩⟩):=by
 have:ps.flatMap S6=ps.map fun p=>D.v (.string ⟨⟨p⟩⟩):=by
  induction ps with
  |nil=>rfl
  |cons p r ih=>rw[List.flatMap_cons,ih];rfl
 rw[this,List.getElem?_map]
theorem Rt (ps:List (List UInt8)):(ps.flatMap S6).length=ps.length:=by
 induction ps with
 |nil=>rfl
 |cons p r ih=>rw[List.flatMap_cons,Aj,ih,Ag];simp[S6];omega
theorem Ng (s:List UInt8):(Fj s).length≤s.length+1:=by
 induction s with
 |nil=>simp[Fj]
 |cons c r ih=>
  rw[Fj]
  split
  ·simp only[Ag];omega
  ·obtain⟨p,ps,h⟩:=Hu r
   rw[h] at ih⊢
   simp only[Ag] at ih⊢;omega
theorem Vu (s:List UInt8) (hs:s.length≤4000000):Ac Tryz.prog 175 [.d (.v (.string ⟨⟨s⟩⟩)),.d (.v (.string ⟨#[46]⟩))] (fun r=>r= .d (Rs true (Fj s))):=by
 refine .of Tryz.func175 (by kernel_rfl) rfl rfl fun w fp0 bm gt vs hG hr=> ?_
 match vs,hr with
 |[a,b],hr=>
  rw[hr.1.val,hr.2.1.val]
  obtain⟨m,hm⟩:=hG.ml
  refine(Tryz.strings_Split ⟨⟨s⟩⟩ ⟨#[46]⟩ m w (by show s.length<_;omega) hm (by decide)).mono ?_
  rintro e w' ⟨rfl,rfl⟩
  rw[Pc]
  have hl:Lib.countB ⟨⟨s⟩⟩ ⟨#[46]⟩+1=(Fj s).length:=by
   have h1:=Lib.splitB_all ⟨#[46]⟩ (by decide) 0 _ ⟨⟨s⟩⟩ rfl
   rw[Pc,List.length_map] at h1
   exact h1.symm
  rw[hl]
  have hd:=Ng s
  refine⟨_,rfl,(Below.refl _ _).alloc (Nat.le_refl _) _,fun fp hfp hnew bm gt=> .d ?_⟩
  refine .sl ((Fj s).map fun p=> .string ⟨⟨p⟩⟩) (Nat.le_refl _) (by unfold maxLen;omega) (by rw[Rt,Nat.mul_one]) (by rw[Rt,List.length_map]) (fun h=>by cases h) (fun u hu=> ?_) (fun i d u hd hu=> ?_) (fun i u hu=> ?_)
  ·obtain⟨p,-,rfl⟩:=List.mem_map.1 hu;rfl
  ·rw[Y4] at hd
   rw[List.getElem?_map] at hu
   cases hp:(Fj s)[i]? with
   |none=>rw[hp] at hd;cases hd
   |some p=>rw[hp] at hd hu;cases hd;cases hu;exact .v _
  ·refine⟨w.heap.size,0,rfl,hnew _ _ (Nat.le_refl _) (by rw[World.size_alloc];omega),fun _=>Nat.le_refl _,?_⟩
   rw[World.cell?_alloc_new,Nat.zero_add]
   simpa[List.map_map,Function.comp_def] using hu
def ED:(Nat→Nat→Prop)→World→Value→Prop:=fun _ _ v=>∃t p,v= .iface t p
def lQ:AV:= .sem ED
def EE:AV:= .d (.v .nilIface)
def puA (l:List UInt8):AV:=match Lib.parseUintB 32 l with
 | .ok u=> .tup [.d (.v (.int .u64 u)),EE]
 |Lib.NumEnd.syntax=> .tup [.d (.v (.int .u64 0)),lQ]
 | .range=> .tup [.d (.v (.int .u64 4294967295)),lQ]
theorem rH {B:Nat} {fp:Nat→Nat→Prop} {w:World} {bm:BM} {gt:Nat→Value} (t:TypeId) (p:Value):RA B fp w bm gt lQ (.iface t p):= .sem rfl fun _ _ _ _ _=>⟨t,p,rfl⟩
theorem dE (l:List UInt8) (hl:l.length≤4000000):Ac Tryz.prog 176 [.d (.v (.string ⟨⟨l⟩⟩)),iv 10,iv 32] (fun r=>r=puA l):=by
 have hs:(⟨⟨l⟩⟩:ByteArray).size=l.length:=rfl
 unfold puA
 have hh:(∃u,Lib.parseUintB 32 l= .ok u)∨Lib.parseUintB 32 l=Lib.NumEnd.syntax∨Lib.parseUintB 32 l= .range:=by
  cases Lib.parseUintB 32 l
  ·exact .inl ⟨_,rfl⟩
  ·exact .inr (.inl rfl)
  ·exact .inr (.inr rfl)
 rcases hh with⟨u,hp⟩|hp|hp<;>rw[hp]
 ·
  refine .of Tryz.func176 (by kernel_rfl) rfl rfl fun w fp0 bm gt vs hG hr=> ?_
  match vs,hr with
  |[a,b,c],hr=>
   rw[hr.1.val,hr.2.1.val,hr.2.2.1.val]
   refine(Tryz.strconv_ParseUint_10_at32_ok ⟨⟨l⟩⟩ (by rw[hs];omega) u hp w).mono ?_
   rintro e w' ⟨rfl,hw⟩
   refine⟨_,rfl,?_,fun fp _ _ bm gt=> .tup [_,_] rfl fun i x v hx hv=> ?_⟩
   ·rcases hw with rfl|rfl
    ·exact Below.refl _ _
    ·exact Lib.bytesWorld_below _ _ _
   ·match i with
    |0=>simp at hx hv;subst hx hv;exact .d (.v _)
    |1=>simp at hx hv;subst hx hv;exact .d (.v _)
 ·
  refine .of Tryz.func176 (by kernel_rfl) rfl rfl fun w fp0 bm gt vs hG hr=> ?_
  match vs,hr with
  |[a,b,c],hr=>
   rw[hr.1.val,hr.2.1.val,hr.2.2.1.val]
   obtain⟨ev,h1,h2⟩:=hG.syn
   refine(Tryz.strconv_ParseUint_10_at32_syntax ⟨⟨l⟩⟩ (by rw[hs];omega) hp ev w h1 h2).mono ?_
   rintro e w' ⟨N,rfl,-,-,hb⟩
   refine⟨_,rfl,hb,fun fp _ _ bm gt=> .tup [_,_] rfl fun i x v hx hv=> ?_⟩
   match i with
   |0=>simp at hx hv;subst hx hv;exact .d (.v _)
   |1=>simp at hx hv;subst hx hv;exact rH _ _
 ·
  refine .of Tryz.func176 (by kernel_rfl) rfl rfl fun w fp0 bm gt vs hG hr=> ?_
  match vs,hr with
  |[a,b,c],hr=>
   rw[hr.1.val,hr.2.1.val,hr.2.2.1.val]
   obtain⟨ev,h1,h2⟩:=hG.rng
   refine(Tryz.strconv_ParseUint_10_at32_range ⟨⟨l⟩⟩ (by rw[hs];omega) hp ev w h1 h2).mono ?_
   rintro e w' ⟨N,rfl,-,-,hb⟩
   refine⟨_,rfl,hb,fun fp _ _ bm gt=> .tup [_,_] rfl fun i x v hx hv=> ?_⟩
   match i with
   |0=>simp at hx hv;subst hx hv;exact .d (.v _)
   |1=>simp at hx hv;subst hx hv;exact rH _ _
open Go.Sort Go.Lib in
theorem lR (u:Nat) (hu64:u<18446744073709551616) (w:World) (htab:Lib.TabIs Tryz.prog w "internal/strconv.uint64pow10" .u64 Lib.pow10Tab):
 Calls Tryz.prog 218 #[.int .u64 u,.int .i64 10] w fun e w'=>e= .returned (.string ⟨(Lib.decDigits u).toArray⟩)∧Below w.heap.size w w':=by
 by_cases hs:u<100
 ·have d1:decide ((u:Int)<100)=true:=decide_eq_true (by omega)
  have w1:IntKind.i64.wrap (u:Int)=(u:Int):=IntWalk.i64_in _ (by omega)
  have hc:=fun w=>Tryz.internal_strconv_small u hs w
  go_enter Tryz.func218,Tryz.ntmps218
  go_wp2_with (go_at_call 245;refine(hc _).mono ?_;rintro e w' ⟨rfl,rfl⟩)
  go_ret
  exact⟨rfl,Below.refl _ _⟩
 ·have d1:decide ((u:Int)<100)=false:=decide_eq_false (by omega)
  have hnd20:Lib.nDigits u≤20:=by have:=Lib.numDigits_eq u (by omega) hu64;split at this<;>omega
  have hal:Tryz.prog.arrayLen 291=24:=by simp[Program.arrayLen,Tryz.underlying291]
  have hsl1:∀W,(Instr.sliceAt 291 (.pointer (some ⟨w.heap.size,0,none⟩)) none (some (.int .i64 (Lib.nDigits u:Int))) none).run Tryz.prog W= .ok (.slice (some ⟨w.heap.size,0,none⟩) (Lib.nDigits u) 24) W:=fun W=>by
   rw[run_sliceAt_array_h W 291 ⟨w.heap.size,0,none⟩ (by simp[Program.arrayLen,Program.elem,Tryz.underlying291]) .i64 (Lib.nDigits u:Int) (by omega) (by rw[hal];omega)]
   rw[hal];simp[Program.elem,Tryz.underlying291,Tryz.sizeOf5,Result.andThen,slicedAt,Lib.add_plain]
  have hH0:Holds (fun(b:UInt8)=>Value.int .u8 (b.toNat:Int)) (w.alloc (.cells Lib.zeros24 291)) w.heap.size 0 (Array.replicate (Lib.nDigits u) (0:UInt8)):=fun i hi=>by
   simp only[Array.size_replicate] at hi
   refine⟨?_,World.frozen?_alloc_new _ _ _ _⟩
   rw[World.cell?_alloc_new,Nat.zero_add,Lib.zeros24_at i (by omega)]
   simp[hi]
  have hfmt:=Tryz.internal_strconv_formatBase10 w.heap.size 0 24 u (Array.replicate (Lib.nDigits u) 0) (w.alloc (.cells Lib.zeros24 291)) hH0 (by rw[Array.size_replicate];exact Lib.lt_pow_nDigits u) hu64 (by rw[Array.size_replicate];omega)
  rw[Array.size_replicate] at hfmt
  have HH0:=Zh hH0
  clear hH0 hal
  go_enter Tryz.func218,Tryz.ntmps218
  go_wp2_with (first
   |(go_at_call 246;refine(Tryz.internal_strconv_numDigits u (by omega) hu64 _ (Lib.tabIs_alloc htab _)).mono ?_;rintro e w' ⟨rfl,rfl⟩))
  go_at_call 247
  refine hfmt.mono ?_
  rintro e w' ⟨rfl,k,v',dk,rfl,hF⟩
  have hcv:(convert 33 9 (.slice (some ⟨w.heap.size,0,none⟩) (Lib.nDigits u) 24)).run Tryz.prog ((putRow (fun(b:UInt8)=>Value.int .u8 (b.toNat:Int)) (w.alloc (.cells Lib.zeros24 291)) w.heap.size 0 dk).drewN k)= .ok (.string ⟨(Lib.decDigits u).toArray⟩) ((putRow (fun(b:UInt8)=>Value.int .u8 (b.toNat:Int)) (w.alloc (.cells Lib.zeros24 291)) w.heap.size 0 dk).drewN k):=by
   have h:=run_convert_bytes_back (P:=Tryz.prog) ((putRow (fun(b:UInt8)=>Value.int .u8 (b.toNat:Int)) (w.alloc (.cells Lib.zeros24 291)) w.heap.size 0 dk).drewN k) 33 9 5 ⟨w.heap.size,0,none⟩ 24 (Lib.decDigits u) Tryz.underlying33 Tryz.underlying5 Tryz.underlying9 (fun j hj=>by
    rw[Lib.row_is_numeral hF j hj,Lib.add_plain,World.cell?_drewN]
    exact cell?_putRow (fun(b:UInt8)=>Value.int .u8 (b.toNat:Int)) _ w.heap.size 0 _ dk HH0.out (by rw[hF.size,Array.size_replicate]) j (by rw[hF.size];rw[Lib.decDigits_length] at hj;exact hj))
   rw[Lib.decDigits_length] at h
   exact h
  go_wp2
  go_ret
  refine⟨rfl,?_⟩
  refine⟨rfl,rfl,rfl,?_,fun i hi=> ?_⟩
  ·show _≤(putRow _ _ _ _ _).heap.size
   rw[Sort.size_putRow,World.size_alloc];omega
  ·show(putRow _ _ _ _ _).heap[i]?=_
   simp only[putRow,mapBlock,Array.getElem?_modify]
   rw[if_neg (by omega)]
   exact Below.heap_alloc w _ i hi
theorem EF (d:Nat) (w:World):(Op.equalIn (d+1) 228 .nilIface .nilIface).run Tryz.prog w= .ok true w:=by
 simp[Op.equalIn,Sem.run_bind,run_underlying Tryz.underlying228,Result.andThen]
theorem EG (d:Nat) (t:TypeId) (p:Value) (w:World):(Op.equalIn (d+1) 228 (.iface t p) .nilIface).run Tryz.prog w= .ok false w:=by
 simp[Op.equalIn,Sem.run_bind,run_underlying Tryz.underlying228,Result.andThen]
theorem rI (x:Operand) (w:World):(do eqGuard .neq 228 x (.const .nilIface) .nilIface .nilIface;binOp .neq 228 .nilIface .nilIface:Sem Value).run Tryz.prog w= .ok (.bool false) w:=by
 have e:∀w,(Op.equal 228 .nilIface .nilIface).run Tryz.prog w= .ok true w:=fun w=>EF 9999 w
 simp[eqGuard,Result.andThen,binOp,e]
theorem rJ (x:Operand) (t:TypeId) (p:Value) (w:World):(do eqGuard .neq 228 x (.const .nilIface) (.iface t p) .nilIface;binOp .neq 228 (.iface t p) .nilIface:Sem Value).run Tryz.prog w= .ok (.bool true) w:=by
 have e:∀w,(Op.equal 228 (.iface t p) .nilIface).run Tryz.prog w= .ok false w:=fun w=>EG 9999 t p w
 simp[eqGuard,Result.andThen,binOp,e]
section
variable {C:Cx} {o:Oper} {σ:AS} {t:Nat}
theorem Ru {yt:TypeId} {x:Operand} (ho:o.op= .binOp .neq 228 x (.const .nilIface) yt) (hd:o.dst=some t) (ht:t<C.N) (hx:σ.eval x=some EE):Bf Tryz.prog C o σ (σ.put t (bv false)):=
 A1 hd ht fun a w bm gt fp hg=>⟨_,by
  have h1:=(hg.eval hx).val
  have h2:a.eval (.const .nilIface)= .nilIface:=rfl
  simp only[execOp,ho,h1,h2]
  rw[Sem.run_bind,rI x w]
  rfl,.d (.v _)⟩
theorem dF {yt:TypeId} {x:Operand} (ho:o.op= .binOp .neq 228 x (.const .nilIface) yt) (hd:o.dst=some t) (ht:t<C.N) (hx:σ.eval x=some lQ):Bf Tryz.prog C o σ (σ.put t (bv true)):=
 A1 hd ht fun a w bm gt fp hg=>by
  have h:=hg.eval hx
  generalize hv:a.eval x=v at h
  unfold lQ at h
  cases h with
  |sem _ h=>
   obtain⟨ti,p,rfl⟩:=h bm.z w (fun _ _ h=>h) (fun _ _ _=>rfl) (NC.refl w)
   refine⟨_,?_,.d (.v _)⟩
   have h2:a.eval (.const .nilIface)= .nilIface:=rfl
   simp only[execOp,ho,hv,h2]
   rw[Sem.run_bind,rJ x ti p w]
   rfl
end
theorem rK (u:Nat) (hu:u<18446744073709551616):Ac Tryz.prog 218 [.d (.v (.int .u64 u)),iv 10] (fun r=>r=sx (Lib.decDigits u)):=by
 refine .of Tryz.func218 (by kernel_rfl) rfl rfl fun w fp0 bm gt vs hG hr=> ?_
 match vs,hr with
 |[a,b],hr=>
  rw[hr.1.val,hr.2.1.val]
  refine(lR u hu w hG.pow).mono ?_
  rintro e w' ⟨rfl,hb⟩
  exact⟨_,rfl,hb,fun fp _ _ bm gt=> .d (.v _)⟩
theorem gC (u:Nat) (hu:u<18446744073709551616):Ac Tryz.prog 177 [.d (.v (.int .u64 u)),iv 10] (fun r=>r=sx (Lib.decDigits u)):=by
 have h:=rK u hu
 refine acQ 8 Tryz.func177 rfl rfl fun _ _ _=> ?_
 (repeat'((conv=>whnf);refine Aa h rfl ?_));(all_goals(conv=>whnf))
 all_goals exact zE
theorem rL (ps:List (List UInt8)) (h0:ps≠[]) (hn:ps.length≤4000000) (hl:(Lib.join ps [46]).length≤100000000):Ac Tryz.prog 252 [.d (Rs false ps),.d (.v (.string ⟨#[46]⟩))] (fun r=>r=sx (Lib.join ps [46])):=by
 refine .of Tryz.func252 (by kernel_rfl) rfl rfl fun w fp0 bm gt vs hG hr=> ?_
 match vs,hr with
 |[a,b],hr=>
  rw[hr.2.1.val]
  have h1:=hr.1
  generalize hq:AV.d (Rs false ps)=q at h1
  cases h1 with
  |d h1=>
   cases hq
   unfold Rs Ey at h1
   generalize hq:D.sl false ps.length 1 (ps.flatMap S6)=q at h1
   cases h1 with
   |sl us k1 k2 k3 k4 k5 k6 k7 k8=>
    cases hq
    rw[Rt] at k4
    obtain⟨p,r,rfl⟩:∃p r,ps=p::r:=by cases ps with|nil=>exact absurd rfl h0|cons p r=>exact⟨p,r,rfl⟩
    have hus0:0<us.length:=by rw[k4];simp
    have hus:us[0]?=some us[0]:=Ak hus0
    obtain⟨bk,o,rfl,-,-,hc0⟩:=k8 0 _ hus
    have hlt:bk<w.heap.size:=World.block_lt_of_cell? w _ hc0
    have hm:((p::r).map fun p=>(⟨⟨p⟩⟩:ByteArray)).map (·.data.toList)=p::r:=by rw[List.map_map];exact List.map_id _
    have hJ:=Tryz.strings_Join bk o _ ((p::r).map fun p=>⟨⟨p⟩⟩) ⟨#[46]⟩ w (fun j x hx=> ?_) hlt (by rw[List.length_map];omega) (by rw[List.length_map];exact k1) (by rw[hm];show(Lib.join (p::r) [46]).length≤_;omega)
    ·rw[hm,List.length_map] at hJ
     refine hJ.mono ?_
     rintro e w' ⟨rfl,hb⟩
     exact⟨_,rfl,hb,fun fp _ _ bm gt=> .d (.v _)⟩
    ·rw[List.getElem?_map,Option.map_eq_some_iff] at hx
     obtain⟨y,hy,rfl⟩:=hx
     have hj:j<us.length:=by rw[k4];exact(As.1 hy).1
     have hu:us[j]?=some us[j]:=Ak hj
     obtain⟨b',o',e1,-,-,e4⟩:=k8 j _ hu
     cases e1
     rw[e4]
     have:=k7 j (.v (.string ⟨⟨y⟩⟩)) us[j] (by rw[Y4,hy];rfl) hu
     generalize us[j]=z at this
     cases this;rfl
   |v=>cases hq
   |cp=>cases hq
   |fn=>cases hq
  |ptr=>cases hq
  |own=>cases hq
  |agg=>cases hq
  |tup=>cases hq
  |sem=>cases hq
  |cl=>cases hq
  |pk=>cases hq
theorem Oj:∀(a:List Nat),Lib.join (a.map Lib.decDigits) [46]=Dn a
 |[]=>rfl
 |[n]=>by simp[Lib.join,Dn,List.intercalate]
 |n::m::r=>by
  have ih:=Oj (m::r)
  rw[Dn,←ih]
  simp[Lib.join,List.intercalate]
def S7 (n:Nat):List D:=[.v (.int .u32 n)]
def Vv (t:Bool) (a:List Nat):D:=Ey t 1 S7 a
theorem Vw (t:Bool) (a:List Nat):(Vv t a).un=Vv false a:=H5 (fun _=>rfl) t 1 a
def lS (n:Nat):List D:=[.v (.int .u64 n)]
def BJ (t:Bool) (a:List Nat):D:=Ey t 1 lS a
theorem Vx (t:Bool) (a:List Nat):(BJ t a).un=BJ false a:=H5 (fun _=>rfl) t 1 a
theorem Rv {α:Type} {f:α→List D} (hf:∀x,D.uns (f x)=f x) (l:List α):D.uns (l.flatMap f)=l.flatMap f:=by
 induction l with
 |nil=>rfl
 |cons x r ih=>rw[List.flatMap_cons,D.uns_eq,List.map_append,←D.uns_eq,←D.uns_eq,hf,ih]
theorem Vy (a:List Nat):D.uns (a.flatMap S7)=a.flatMap S7:=Rv (fun _=>rfl) a
theorem Vz (a:List Nat):D.uns (a.flatMap lS)=a.flatMap lS:=Rv (fun _=>rfl) a
theorem V1 (a:List (List UInt8)):D.uns (a.flatMap S6)=a.flatMap S6:=Rv (fun _=>rfl) a
abbrev uv (n:Nat):AV:= .d (.v (.int .u64 n))
abbrev wv (n:Nat):AV:= .d (.v (.int .u32 n))
theorem Nh (a:List Nat) (ha:a.length≤1000000000):Ac Tryz.prog 178 [.d (Vv false a)] (fun r=>r=bv (Cz a)):=by
 match a,ha with
 |[],_=>
  refine acQ 24 Tryz.func178 rfl rfl fun _ _ _=> ?_
  (repeat'((conv=>whnf);refine Ab ?_));(all_goals(conv=>whnf))
  all_goals exact zE
 |[x],_=>
  refine acQ 24 Tryz.func178 rfl rfl fun _ _ _=> ?_
  (repeat'((conv=>whnf);refine Ab ?_));(all_goals(conv=>whnf))
  all_goals exact zE
 |x::y::r,ha=>
  have h0:(x::y::r)[0]?=some x:=rfl
  have h1:(x::y::r)[1]?=some y:=rfl
  simp only[Ag] at ha
  by_cases c1:x≤2
  ·have g1:decide ((x:Int)>2)=false:=decide_eq_false (by omega)
   by_cases c2:x<2
   ·have g2:decide ((x:Int)<2)=true:=decide_eq_true (by omega)
    have e:Cz (x::y::r)=decide ((y:Int)<40):=by
     rw[Cz,if_pos c2,decide_eq_true c1,Bool.true_and,decide_eq_decide];omega
    rw[e]
    refine acQ 24 Tryz.func178 rfl rfl fun _ _ _=> ?_
    (repeat'((conv=>whnf);first|refine Ae ?_|refine Av asP ?_|refine Ay asP ?_|refine NIdx.tab (fun _=>rfl) h0 ?_|refine NIdx.tab (fun _=>rfl) h1 ?_|exact zE))
   ·have g2:decide ((x:Int)<2)=false:=decide_eq_false (by omega)
    have e:Cz (x::y::r)=decide ((y:Int)≤4294967215):=by
     rw[Cz,if_neg c2,decide_eq_true c1,Bool.true_and,decide_eq_decide];omega
    rw[e]
    refine acQ 24 Tryz.func178 rfl rfl fun _ _ _=> ?_
    (repeat'((conv=>whnf);first|refine Ae ?_|refine Ay asP ?_|refine NIdx.tab (fun _=>rfl) h0 ?_|refine NIdx.tab (fun _=>rfl) h1 ?_|exact zE))
  ·have g1:decide ((x:Int)>2)=true:=decide_eq_true (by omega)
   have e:Cz (x::y::r)=false:=by rw[Cz,decide_eq_false c1];rfl
   rw[e]
   refine acQ 24 Tryz.func178 rfl rfl fun _ _ _=> ?_
   (repeat'((conv=>whnf);first|refine Ae ?_|refine Av asP ?_|refine NIdx.tab (fun _=>rfl) h0 ?_|exact zE))
def Lp (s:List UInt8):AV:=match D9 s with
 |some a=> .tup [.d (Vv true a),iv 0]
 |none=> .tup [Bj,iv 11]
theorem K7:∀{ps:List (List UInt8)} {a:List Nat},Dh ps=some a→a.length=ps.length
 |[],a,h=>by rw[Dh] at h;cases h;rfl
 |p::r,a,h=>by
  rw[Dh] at h
  split at h
  ·rename_i n l h1 h2
   cases h
   rw[Ag,Ag,K7 h2]
  ·cases h
theorem Rw:∀{ps:List (List UInt8)} {a:List Nat} {p:List UInt8} {n:Nat},Dh ps=some a→Lh p=some n→Dh (ps++[p])=some (a++[n])
 |[],a,p,n,h,hp=>by rw[Dh] at h;cases h;rw[List.nil_append,Dh,hp];rfl
 |q::r,a,p,n,h,hp=>by
  rw[Dh] at h
  split at h
  ·rename_i m l h1 h2
   cases h
   rw[List.cons_append,Dh,h1,Rw h2 hp];rfl
  ·cases h
theorem L6:∀{ps:List (List UInt8)} {p:List UInt8},p∈ps→Lh p=none→Dh ps=none
 |q::r,p,h,hp=>by
  rw[Dh]
  rcases List.mem_cons.1 h with rfl|h
  ·rw[hp]
  ·rw[L6 h hp];cases Lh q<;>rfl
theorem G1 {α:Type} {l:List α} {i:Nat} {x:α} (h:l[i]?=some x):l.take (i+1)=l.take i++[x]:=by
 obtain⟨hlt,he⟩:=As.1 h
 rw[List.take_succ_eq_append_getElem hlt,he]
theorem zG (a b:List UInt8):(a==b)=decide (a=b):=by
 by_cases h:a=b
 ·subst h;simp
 ·rw[decide_eq_false h];exact beq_false_of_ne h
theorem V2:∀(s p:List UInt8),p∈Fj s→p.length≤s.length
 |[],p,h=>by simp[Fj] at h;subst h;simp
 |c::r,p,h=>by
  rw[Fj] at h
  split at h
  ·rcases List.mem_cons.1 h with rfl|h
   ·simp
   ·have:=V2 r p h;simp only[Ag];omega
  ·obtain⟨q,qs,hq⟩:=Hu r
   have ih:=V2 r
   rw[hq] at h ih
   rcases List.mem_cons.1 h with rfl|h
   ·have:=ih q (by simp);simp only[Ag];omega
   ·have:=ih p (by simp[h]);simp only[Ag];omega
theorem Rx {p:Prop} (h:p:=by first|rfl|(simp only[AV.gives,AV.ren,AV.give,D.un,D.uns,Ai,Am,List.nil_append,List.append_nil,List.cons_append,Vw,Ka,Vx,C7,Vy,Vz,V1];first|done|rfl)):p:=h
theorem Kb (s:List UInt8) (hs:s.length≤4000000):Ac Tryz.prog 127 [sx s] (fun r=>r=Lp s):=by
 have hS:=Vu s hs
 have hdl:=Ng s
 have hple:=V2 s
 unfold Lp D9
 generalize Fj s=ps at hS hdl hple⊢
 refine acQ 39 Tryz.func127 rfl rfl fun _ _ _=> ?_
 (repeat'((conv=>whnf);refine Aa hS rfl ?_));(all_goals(conv=>whnf))
 refine Bt [.s 4 1 181] (fun p:Nat×List Nat=>p.1≤ps.length∧Dh (ps.take p.1)=some p.2) (fun p=>ps.length-p.1) (fun p=>⟨[(4,C7 4 1 181 S7 p.2),(10,.d (Rs true ps)),(11,iv ps.length),(12,iv p.1)],[],[(4,(p.2.length,1,181))]⟩) (0,[]) ⟨by simp,rfl⟩ leQ ?_
 rintro⟨i,ns⟩ ⟨hi,hns⟩
 simp only at hi hns
 have hnl:=K7 hns
 rw[Al] at hnl
 by_cases hik:i<ps.length
 ·obtain⟨p,hp⟩:∃p,ps[i]?=some p:=⟨_,Ak hik⟩
  have hpl:=hple p (Bk hp)
  have hP:=dE p (by omega)
  unfold puA at hP
  have hh:(∃u,Lib.parseUintB 32 p= .ok u)∨∃n,Ac Tryz.prog 176 [sx p,iv 10,iv 32] (fun r=>r= .tup [uv n,lQ])∧Lh p=none:=by
   unfold Lh
   generalize Lib.parseUintB 32 p=q at hP
   cases q with
   |ok u=>exact .inl ⟨u,rfl⟩
   |_=>exact .inr ⟨_,hP,rfl⟩
  rcases hh with⟨u,hu⟩|⟨n,hP',hn⟩
  ·rw[hu] at hP
   have hule:=Lib.parseUintB_le hu
   have hF:=gC u (by omega)
   by_cases hd:Lib.decDigits u=p
   ·have ha:Lh p=some u:=by unfold Lh;rw[hu];exact if_pos hd
    have hne:(!(Lib.decDigits u==p))=false:=by rw[hd];simp
    (repeat'((conv=>whnf);first|refine Ae ?_|refine Ay asP ?_|refine NIdx.tab (fun _=>rfl) hp ?_|refine Aa hP rfl ?_|refine Aa hF rfl ?_|refine A9 (Ru rfl rfl (ltN rfl) rfl) ?_|refine A8 S7 u ?_|(with_reducible refine NInt.i64 ?_)|(with_reducible refine NInt.u32 ?_)|(refine Ah (fun hc hcP=> ?_) (fun hc hcP=> ?_)<;>try(exfalso;omega))));(all_goals(conv=>whnf))
    refine⟨(i+1,ns++[u]),⟨by show i+1≤_;omega,?_⟩,by show ps.length-(i+1)<ps.length-i;omega,?_⟩
    ·show Dh (ps.take (i+1))=_
     rw[G1 hp];exact Rw hns ha
    ·exact leQ
   ·have ha:Lh p=none:=by unfold Lh;rw[hu];exact if_neg hd
    have hne:(!(Lib.decDigits u==p))=true:=by rw[zG,decide_eq_false hd];rfl
    rw[L6 (Bk hp) ha]
    (repeat'((conv=>whnf);first|refine Ae ?_|refine Av asP ?_|refine NIdx.tab (fun _=>rfl) hp ?_|refine Aa hP rfl ?_|refine Aa hF rfl ?_|refine A9 (Ru rfl rfl (ltN rfl) rfl) ?_|(refine Ah (fun hc hcP=> ?_) (fun hc hcP=> ?_)<;>try(exfalso;omega))|exact zE))
  ·rw[L6 (Bk hp) hn]
   (repeat'((conv=>whnf);first|refine Ab ?_|refine NIdx.tab (fun _=>rfl) hp ?_|refine Aa hP' rfl ?_|refine A9 (dF rfl rfl (ltN rfl) rfl) ?_|(refine Ah (fun hc hcP=> ?_) (fun hc hcP=> ?_)<;>try(exfalso;omega))|exact zE))
 ·obtain rfl:i=ps.length:=by omega
  rw[List.take_length] at hns
  have hR:=Nh ns (by omega)
  rw[hns]
  cases hr:Cz ns
  ·rw[hr] at hR
   simp only[hr]
   (repeat'((conv=>whnf);first|refine Ab ?_|refine Aa hR Rx ?_|(refine Ah (fun hc hcP=> ?_) (fun hc hcP=> ?_)<;>try(exfalso;omega))|exact zE))
  ·rw[hr] at hR
   simp only[hr]
   (repeat'((conv=>whnf);first|refine Ae ?_|refine Aa hR Rx ?_|(refine Ah (fun hc hcP=> ?_) (fun hc hcP=> ?_)<;>try(exfalso;omega))|exact zE))
theorem V3 (s:List UInt8) (hs:s.length≤4000000):Ac Tryz.prog 126 [sx s] (fun r=>r=bv (E0 s)):=by
 have hA:=Kb s hs
 unfold Lp at hA
 unfold E0
 generalize D9 s=q at hA⊢
 cases q with
 |none=>
  refine acQ 12 Tryz.func126 rfl rfl fun _ _ _=> ?_
  (repeat'((conv=>whnf);refine Aa hA rfl ?_));(all_goals(conv=>whnf))
  all_goals exact zE
 |some a=>
  refine acQ 12 Tryz.func126 rfl rfl fun _ _ _=> ?_
  (repeat'((conv=>whnf);refine Aa hA rfl ?_));(all_goals(conv=>whnf))
  all_goals exact zE
theorem V4 (n:Nat) (hn:n≤4294967295):(Lib.decDigits n).length≤20:=by
 rw[Lib.decDigits_length]
 have:=Lib.nDigits_pos n
 rcases Nat.eq_zero_or_pos n with h|h
 ·subst h;rw[Lib.nDigits_small (by omega)];omega
 ·have:=Lib.numDigits_eq n h (by omega)
  have h2:=this.2
  have h3:=this.1
  split at h3<;>omega
theorem T5:∀(a:List Nat),(∀n∈a,n≤4294967295)→(Dn a).length≤21*a.length
 |[],_=>by simp[Dn]
 |[n],h=>by
  have:=V4 n (h n (by simp))
  rw[Dn,List.length_singleton];omega
 |n::m::r,h=>by
  have h1:=V4 n (h n (by simp))
  have h2:=T5 (m::r) (fun x hx=>h x (by simp[hx]))
  rw[Dn,Aj,Ag]
  simp only[Ag] at h2⊢
  omega
theorem Y5 (a:List Nat) (hb:∀n∈a,n≤4294967295) (ha:a.length≤4000000):Ac Tryz.prog 222 [.d (Vv false a)] (fun r=>r=if Cz a then .tup [sx (Dn a),iv 0] else .tup [sx [],iv 8]):=by
 have hR:=Nh a (by omega)
 cases hr:Cz a
 ·rw[hr] at hR
  rw[if_neg (by simp)]
  refine acQ 25 Tryz.func222 rfl rfl fun _ _ _=> ?_
  (repeat'((conv=>whnf);first|refine Ab ?_|refine Aa hR Rx ?_|exact zE))
 ·rw[hr] at hR
  rw[if_pos rfl]
  obtain⟨x,y,r,hxy,-⟩:=Fg hr
  have htl:=T5 a hb
  have hJ:=rL (a.map Lib.decDigits) (by rw[hxy];simp) (by rw[List.length_map];omega) (by rw[Oj];omega)
  rw[Oj] at hJ
  refine acQ 25 Tryz.func222 rfl rfl fun _ _ _=> ?_
  (repeat'((conv=>whnf);first|refine Ae ?_|refine Aa hR Rx ?_));(all_goals(conv=>whnf))
  refine Bt [.s 4 1 9] (fun i:Nat=>i≤a.length) (fun i=>a.length-i) (fun i=>⟨[(4,C7 4 1 9 S6 ((a.take i).map Lib.decDigits)),(10,.d (Vv false a)),(11,iv a.length),(12,iv i)],[],[(4,(((a.take i).map Lib.decDigits).length,1,9))]⟩) 0 (by simp) leQ ?_
  intro i hi
  by_cases hik:i<a.length
  ·obtain⟨n,hn⟩:∃n,a[i]?=some n:=⟨_,Ak hik⟩
   have hn2:=hb n (Bk hn)
   have hF:=gC n (by omega)
   have hl:((a.take i).map Lib.decDigits).length≤4000000:=by rw[List.length_map,Al];omega
   (repeat'((conv=>whnf);first|refine NIdx.tab (fun _=>rfl) hn ?_|refine Aa hF rfl ?_|refine A8 S6 (Lib.decDigits n) ?_|(with_reducible refine NInt.i64 ?_)|(with_reducible refine NInt.u64 ?_)|(refine Ah (fun hc hcP=> ?_) (fun hc hcP=> ?_)<;>try(exfalso;omega))));(all_goals(conv=>whnf))
   refine⟨i+1,by omega,by omega,?_⟩
   rw[G1 hn,List.map_append]
   exact leQ
  ·obtain rfl:i=a.length:=by omega
   rw[List.take_length]
   (repeat'((conv=>whnf);first|refine Aa hJ Rx ?_|(refine Ah (fun hc hcP=> ?_) (fun hc hcP=> ?_)<;>try(exfalso;omega))|exact zE))
theorem rM {P:Program} {C:Cx} {o:Oper} {σ:AS} {t:Nat} {k k':IntKind} {m n:Int} {x y:Operand} {ats:Array TypeId} (v:Int) (hv:(if n<m then n else m)=v) (ho:o.op= .call {callee:= .builtin .min,args:=#[x,y],argTypes:=ats}) (hd:o.dst=some t) (ht:t<C.N) (hx:σ.eval x=some (.d (.v (.int k m)))) (hy:σ.eval y=some (.d (.v (.int k' n)))):Bf P C o σ (σ.put t (.d (.v (.int k v)))):=
 A1 hd ht fun a w bm gt fp hg=>by
  have h1:=(hg.eval hx).val
  have h2:=(hg.eval hy).val
  refine⟨_,?_,.d (.v _)⟩
  simp only[execOp,ho,resolve,invoke,builtin,Sem.run_bind,Sem.run_pure,Result.andThen_ok,List.map_toArray,List.map_cons,List.map_nil,h1,h2]
  subst hv
  simp[go_sem]
  omega
theorem BK (x:UInt8):IntKind.u8.wrap ((BitVec.ofInt IntKind.u8.bits (x.toNat:Int)&&&BitVec.ofInt IntKind.u8.bits 127).toNat:Int)=((x.toNat%128:Nat):Int):=by
 have h:∀x:Fin 256,IntKind.u8.wrap ((BitVec.ofInt IntKind.u8.bits (x.1:Int)&&&BitVec.ofInt IntKind.u8.bits 127).toNat:Int)=((x.1%128:Nat):Int):=by decide+kernel
 exact h ⟨x.toNat,x.toNat_lt⟩
theorem BL (x:UInt8):IntKind.u8.wrap ((BitVec.ofInt IntKind.u8.bits (x.toNat:Int)&&&BitVec.ofInt IntKind.u8.bits 128).toNat:Int)=((x.toNat/128*128:Nat):Int):=by
 have h:∀x:Fin 256,IntKind.u8.wrap ((BitVec.ofInt IntKind.u8.bits (x.1:Int)&&&BitVec.ofInt IntKind.u8.bits 128).toNat:Int)=((x.1/128*128:Nat):Int):=by decide+kernel
 exact h ⟨x.toNat,x.toNat_lt⟩
theorem EV (n:Nat) (hn:n≤4294967295):IntKind.u64.wrap ((n:Int)*2^(min (Int.toNat 7) IntKind.u64.bits))=((n*128:Nat):Int):=by
 have:(2:Int)^(min (Int.toNat 7) IntKind.u64.bits)=128:=by decide
 rw[this,IntWalk.u64_in _ (by omega)];omega
theorem or7 (n m:Nat) (hn:n≤4294967295) (hm:m<128):IntKind.u64.wrap ((BitVec.ofInt IntKind.u64.bits ((n*128:Nat):Int)|||BitVec.ofInt IntKind.u64.bits (m:Int)).toNat:Int)=((n*128+m:Nat):Int):=by
 rw[BitVec.toNat_or,BitVec.ofInt_natCast,BitVec.ofInt_natCast,BitVec.toNat_ofNat,BitVec.toNat_ofNat]
 have hb64:2^IntKind.u64.bits=18446744073709551616:=by decide
 rw[hb64,Nat.mod_eq_of_lt (by omega),Nat.mod_eq_of_lt (by omega)]
 have:n*128|||m=n*128+m:=by
  have h:=Nat.shiftLeft_add_eq_or_of_lt (i:=7) (b:=m) (by omega) n
  rw[Nat.shiftLeft_eq] at h
  exact h.symm
 rw[this,IntWalk.u64_in _ (by omega)]
def Gj (ns:List Nat):Option (List Nat)→Option (List Nat)
 |some l=>some (ns++l)
 |none=>none
theorem dG (ns:List Nat) (n:Nat) (o:Option (List Nat)):Gj ns (match o with|some l=>some (n::l)|none=>none)=Gj (ns++[n]) o:=by
 cases o with
 |none=>rfl
 |some l=>show some (ns++n::l)=some (ns++[n]++l);simp
theorem Ry {α:Type} {l:List α} {i:Nat} {x:α} (h:l[i]?=some x):l.drop i=x::l.drop (i+1):=by
 obtain⟨h1,h2⟩:=As.1 h
 rw[List.drop_eq_getElem_cons h1,h2]
theorem dH {c:List UInt8} {i:Nat} {x:UInt8} {b:Bool} {n:Nat} (hx:c[i]?=some x):Cc b n (c.drop i)=if b=false∧x=128 then none else if n*128+x.toNat%128>4294967295 then none else if x.toNat<128 then(match Cc false 0 (c.drop (i+1)) with
 |some l=>some ((n*128+x.toNat%128)::l)
 |none=>none) else Cc true (n*128+x.toNat%128) (c.drop (i+1)):=by
 rw[Ry hx,Cc]<;>rfl
def V5 (c:List UInt8):AV:= .tup [sx (odT c),iv (odC c)]
theorem K8 {c:List UInt8} (h:Cc false 0 c=none∨Cc false 0 c=some []):V5 c= .tup [sx [],iv 6]:=by
 have:Yx c=none:=by unfold Yx;rcases h with h|h<;>rw[h]
 unfold V5 odT odC
 rw[this];rfl
theorem lU {c:List UInt8} {n:Nat} {r:List Nat} (h:Cc false 0 c=some (n::r)):V5 c= .tup [sx (Dn (E8 (n::r))),iv 0]:=by
 have:Yx c=some (E8 (n::r)):=by unfold Yx;rw[h]
 unfold V5 odT odC
 rw[this];rfl
structure DSt where
 i:Nat
 ns:List Nat
 b:Bool
 n:Nat
theorem wU {p:Prop} (h:p:=by first|rfl|(simp only[AV.gives,AV.ren,AV.give,D.un,D.uns,Ai,Am,List.nil_append,List.append_nil,List.cons_append,Vw,Ka,Vx,C7,Vy,Vz,V1];first|done|rfl)):p:=h
theorem L7 (c:List UInt8) (hc:c.length≤900000):Ac Tryz.prog 187 [.d (Af false c)] (fun r=>r=V5 c):=by
 refine acQ 87 Tryz.func187 rfl rfl fun _ _ _=> ?_
 (all_goals(conv=>whnf))
 refine Bt [.s 4 1 217] (fun p:DSt=>p.i≤c.length∧p.ns.length≤p.i∧p.n≤4294967295∧(p.b=false→p.n=0)∧Cc false 0 c=Gj p.ns (Cc p.b p.n (c.drop p.i))) (fun p=>c.length-p.i) (fun p=>⟨[(4,C7 4 1 217 lS p.ns),(5,bv p.b),(6,uv p.n),(15,.d (Af false c)),(16,iv c.length),(17,iv p.i)],[],[(4,(p.ns.length,1,217))]⟩) ⟨0,[],false,0⟩ ⟨by simp,by simp,by simp,by simp,(by show Cc false 0 c=Gj [] (Cc false 0 c);cases Cc false 0 c<;>rfl)⟩ leQ ?_
 rintro⟨i,ns,b,n⟩ ⟨hi,hnl,hn,hb0,he⟩
 simp only at hi hnl hn hb0 he
 by_cases hik:i<c.length
 ·obtain⟨x,hx⟩:∃x,c[i]?=some x:=⟨_,Ak hik⟩
  have hxl:=x.toNat_lt
  rw[dH hx] at he
  have hb1:(!b&&((x.toNat:Int)==128))=decide (b=false∧x=128):=by
   have:((x.toNat:Int)==128)=decide (x=128):=by
    rw[Bool.eq_iff_iff,beq_iff_eq,decide_eq_true_eq,←UInt8.toNat_inj]
    show _↔x.toNat=128
    omega
   rw[this];cases b<;>simp
  by_cases c1:b=false∧x=128
  ·rw[if_pos c1] at he
   rw[K8 (.inl he)]
   obtain⟨rfl,rfl⟩:=c1
   have g:(((128:UInt8).toNat:Int)==128)=true:=by decide
   (repeat'((conv=>whnf);first|refine Ab ?_|refine NIdx.bytes hx ?_|(refine NBr.mk (fun hc=> ?_) (fun hc=> ?_)<;>(have hcP:=hc;(try simp only[decide_eq_true_eq,decide_eq_false_iff_not] at hcP)<;>first|(exfalso;omega)|skip))|exact zE))
  ·rw[if_neg c1] at he
   have e1:=BK x
   have e2:=BL x
   have e3:=EV n hn
   have e4:=or7 n (x.toNat%128) hn (by omega)
   by_cases c2:n*128+x.toNat%128>4294967295
   ·rw[if_pos c2] at he
    rw[K8 (.inl he)]
    have g2:decide (((n*128+x.toNat%128:Nat):Int)>4294967295)=true:=decide_eq_true (by omega)
    cases b
    ·have g:((x.toNat:Int)==128)=false:=by
      rw[Bool.not_false,Bool.true_and] at hb1
      rw[hb1,decide_eq_false c1]
     (repeat'((conv=>whnf);first|refine Ab ?_|refine Av asP ?_|refine Ay asP ?_|refine NIdx.bytes hx ?_|refine NInt.as (((n*128:Nat):Int)) (e3) ?_|refine NInt.as (((x.toNat%128:Nat):Int)) (e1) ?_|refine NInt.as (((n*128+x.toNat%128:Nat):Int)) (e4) ?_|refine NInt.as (((x.toNat/128*128:Nat):Int)) (e2) ?_|(with_reducible refine NInt.u64 ?_)|refine A0 (by first|decide|omega|(simp only[Ag,List.length_nil];omega)) ?_|(refine NBr.mk (fun hc=> ?_) (fun hc=> ?_)<;>(have hcP:=hc;(try simp only[decide_eq_true_eq,decide_eq_false_iff_not] at hcP)<;>first|(exfalso;omega)|skip))|exact zE))
    ·(repeat'((conv=>whnf);first|refine Ae ?_|refine Av asP ?_|refine NIdx.bytes hx ?_|refine NInt.as (((n*128:Nat):Int)) (e3) ?_|refine NInt.as (((x.toNat%128:Nat):Int)) (e1) ?_|refine NInt.as (((n*128+x.toNat%128:Nat):Int)) (e4) ?_|refine NInt.as (((x.toNat/128*128:Nat):Int)) (e2) ?_|(with_reducible refine NInt.u64 ?_)|refine A0 (by first|decide|omega|(simp only[Ag,List.length_nil];omega)) ?_|(refine NBr.mk (fun hc=> ?_) (fun hc=> ?_)<;>(have hcP:=hc;(try simp only[decide_eq_true_eq,decide_eq_false_iff_not] at hcP)<;>first|(exfalso;omega)|skip))|exact zE))
   ·rw[if_neg c2] at he
    have g2:decide (((n*128+x.toNat%128:Nat):Int)>4294967295)=false:=decide_eq_false (by omega)
    by_cases c3:x.toNat<128
    ·rw[if_pos c3,dG] at he
     have g3:(((x.toNat/128*128:Nat):Int) !=0)=false:=by rw[bne_eq_false_iff_eq];omega
     cases b
     ·have g:((x.toNat:Int)==128)=false:=by
       rw[Bool.not_false,Bool.true_and] at hb1
       rw[hb1,decide_eq_false c1]
      (repeat'((conv=>whnf);first|refine Ab ?_|refine Ay asP ?_|refine NIdx.bytes hx ?_|refine NInt.as (((n*128:Nat):Int)) (e3) ?_|refine NInt.as (((x.toNat%128:Nat):Int)) (e1) ?_|refine NInt.as (((n*128+x.toNat%128:Nat):Int)) (e4) ?_|refine NInt.as (((x.toNat/128*128:Nat):Int)) (e2) ?_|refine A8 lS (n*128+x.toNat%128) ?_|(with_reducible refine NInt.i64 ?_)|(with_reducible refine NInt.u64 ?_)|refine A0 (by first|decide|omega|(simp only[Ag,List.length_nil];omega)) ?_|(refine NBr.mk (fun hc=> ?_) (fun hc=> ?_)<;>(have hcP:=hc;(try simp only[decide_eq_true_eq,decide_eq_false_iff_not,bne_iff_ne,bne_eq_false_iff_eq,ne_eq,Bool.not_eq_true',Bool.not_eq_false'] at hcP)<;>first|(exfalso;omega)|skip))));(all_goals(conv=>whnf))
      refine⟨⟨i+1,ns++[n*128+x.toNat%128],(((x.toNat/128*128:Nat):Int) !=0),0⟩,⟨by show i+1≤_;omega,by simp;omega,by simp,fun _=>rfl,?_⟩,by show c.length-(i+1)<c.length-i;omega,?_⟩
      ·show Cc false 0 c=Gj _ (Cc (((x.toNat/128*128:Nat):Int) !=0) 0 (c.drop (i+1)))
       rw[g3];exact he
      ·exact leQ
     ·(repeat'((conv=>whnf);first|refine Ae ?_|refine Ay asP ?_|refine NIdx.bytes hx ?_|refine NInt.as (((n*128:Nat):Int)) (e3) ?_|refine NInt.as (((x.toNat%128:Nat):Int)) (e1) ?_|refine NInt.as (((n*128+x.toNat%128:Nat):Int)) (e4) ?_|refine NInt.as (((x.toNat/128*128:Nat):Int)) (e2) ?_|refine A8 lS (n*128+x.toNat%128) ?_|(with_reducible refine NInt.i64 ?_)|(with_reducible refine NInt.u64 ?_)|refine A0 (by first|decide|omega|(simp only[Ag,List.length_nil];omega)) ?_|(refine NBr.mk (fun hc=> ?_) (fun hc=> ?_)<;>(have hcP:=hc;(try simp only[decide_eq_true_eq,decide_eq_false_iff_not,bne_iff_ne,bne_eq_false_iff_eq,ne_eq,Bool.not_eq_true',Bool.not_eq_false'] at hcP)<;>first|(exfalso;omega)|skip))));(all_goals(conv=>whnf))
      refine⟨⟨i+1,ns++[n*128+x.toNat%128],(((x.toNat/128*128:Nat):Int) !=0),0⟩,⟨by show i+1≤_;omega,by simp;omega,by simp,fun _=>rfl,?_⟩,by show c.length-(i+1)<c.length-i;omega,?_⟩
      ·show Cc false 0 c=Gj _ (Cc (((x.toNat/128*128:Nat):Int) !=0) 0 (c.drop (i+1)))
       rw[g3];exact he
      ·exact leQ
    ·rw[if_neg c3] at he
     have g3:(((x.toNat/128*128:Nat):Int) !=0)=true:=by rw[bne_iff_ne];omega
     cases b
     ·have g:((x.toNat:Int)==128)=false:=by
       rw[Bool.not_false,Bool.true_and] at hb1
       rw[hb1,decide_eq_false c1]
      (repeat'((conv=>whnf);first|refine Ab ?_|refine Ay asP ?_|refine NIdx.bytes hx ?_|refine NInt.as (((n*128:Nat):Int)) (e3) ?_|refine NInt.as (((x.toNat%128:Nat):Int)) (e1) ?_|refine NInt.as (((n*128+x.toNat%128:Nat):Int)) (e4) ?_|refine NInt.as (((x.toNat/128*128:Nat):Int)) (e2) ?_|(with_reducible refine NInt.i64 ?_)|(with_reducible refine NInt.u64 ?_)|refine A0 (by first|decide|omega|(simp only[Ag,List.length_nil];omega)) ?_|(refine NBr.mk (fun hc=> ?_) (fun hc=> ?_)<;>(have hcP:=hc;(try simp only[decide_eq_true_eq,decide_eq_false_iff_not,bne_iff_ne,bne_eq_false_iff_eq,ne_eq,Bool.not_eq_true',Bool.not_eq_false'] at hcP)<;>first|(exfalso;omega)|skip))));(all_goals(conv=>whnf))
      refine⟨⟨i+1,ns,(((x.toNat/128*128:Nat):Int) !=0),n*128+x.toNat%128⟩,⟨by show i+1≤_;omega,by show ns.length≤i+1;omega,by show n*128+x.toNat%128≤_;omega,fun h=> ?_,?_⟩,by show c.length-(i+1)<c.length-i;omega,?_⟩
      ·rw[show(((x.toNat/128*128:Nat):Int) !=0)=false from h] at g3;cases g3
      ·show Cc false 0 c=Gj _ (Cc (((x.toNat/128*128:Nat):Int) !=0) _ (c.drop (i+1)))
       rw[g3];exact he
      ·exact leQ
     ·(repeat'((conv=>whnf);first|refine Ae ?_|refine Ay asP ?_|refine NIdx.bytes hx ?_|refine NInt.as (((n*128:Nat):Int)) (e3) ?_|refine NInt.as (((x.toNat%128:Nat):Int)) (e1) ?_|refine NInt.as (((n*128+x.toNat%128:Nat):Int)) (e4) ?_|refine NInt.as (((x.toNat/128*128:Nat):Int)) (e2) ?_|(with_reducible refine NInt.i64 ?_)|(with_reducible refine NInt.u64 ?_)|refine A0 (by first|decide|omega|(simp only[Ag,List.length_nil];omega)) ?_|(refine NBr.mk (fun hc=> ?_) (fun hc=> ?_)<;>(have hcP:=hc;(try simp only[decide_eq_true_eq,decide_eq_false_iff_not,bne_iff_ne,bne_eq_false_iff_eq,ne_eq,Bool.not_eq_true',Bool.not_eq_false'] at hcP)<;>first|(exfalso;omega)|skip))));(all_goals(conv=>whnf))
      refine⟨⟨i+1,ns,(((x.toNat/128*128:Nat):Int) !=0),n*128+x.toNat%128⟩,⟨by show i+1≤_;omega,by show ns.length≤i+1;omega,by show n*128+x.toNat%128≤_;omega,fun h=> ?_,?_⟩,by show c.length-(i+1)<c.length-i;omega,?_⟩
      ·rw[show(((x.toNat/128*128:Nat):Int) !=0)=false from h] at g3;cases g3
      ·show Cc false 0 c=Gj _ (Cc (((x.toNat/128*128:Nat):Int) !=0) _ (c.drop (i+1)))
       rw[g3];exact he
      ·exact leQ
 ·obtain rfl:i=c.length:=by omega
  rw[List.drop_length] at he
  cases b
  ·rw[Cc,if_neg (by simp)] at he
   simp only[Gj,List.append_nil] at he
   cases ns with
   |nil=>
    rw[K8 (.inr he)]
    (repeat'((conv=>whnf);first|refine Ab ?_|refine Ae ?_|(refine NBr.mk (fun hc=> ?_) (fun hc=> ?_)<;>(have hcP:=hc;(try simp only[decide_eq_true_eq,decide_eq_false_iff_not] at hcP)<;>first|(exfalso;omega)|skip))|exact zE))
   |cons n0 r=>
    rw[lU he]
    obtain⟨-,k2⟩:=L5 c false 0 _ (by omega) (by simp) (fun _=>rfl) he
    obtain⟨k3,k4,k5⟩:=Vt (l:=n0::r) (by simp) k2
    have hn0:=k2 n0 (by simp)
    rw[Ag] at hnl
    have hT:=Y5 (E8 (n0::r)) k4 (by rw[E8];simp only[Ag];omega)
    rw[if_pos k3] at hT
    have h0:(n0::r)[0]?=some n0:=rfl
    have hz:((((n0::r).length:Nat):Int)==0)=false:=by rw[Ag,beq_eq_false_iff_ne];omega
    have hm:(if(2:Int)<((n0/40:Nat):Int) then(2:Int) else((n0/40:Nat):Int))=((min (n0/40) 2:Nat):Int):=by
     split<;>omega
    have w1:IntKind.u32.wrap ((min (n0/40) 2:Nat):Int)=((min (n0/40) 2:Nat):Int):=IntWalk.u32_in _ (by omega)
    generalize hq:min (n0/40) 2=q at hT hm w1
    have hq2:q≤2∧q*40≤n0:=by omega
    have hul:E8 (n0::r)=q::(n0-40*q)::r:=by rw[E8,hq]
    rw[hul] at hT⊢
    have hdr:((n0::r).drop 1).take ((n0::r).length-1)=r:=by simp
    have ar:∀m:Int,m=((n0-40*q:Nat):Int)→IntKind.u64.wrap m=((n0-40*q:Nat):Int):=fun m hm=>by rw[hm,IntWalk.u64_in _ (by omega)]
    (repeat'((conv=>whnf);first|refine Ae ?_|refine NIdx.tab (fun _=>rfl) h0 ?_|refine NSl.tab (fun _=>rfl) 1 (n0::r).length r hdr ?_|refine A9 (rM ((q:Nat):Int) hm rfl rfl (ltN rfl) rfl rfl) ?_|refine NInt.as (((n0-40*q:Nat):Int)) (ar _ (by omega)) ?_|(with_reducible refine NInt.u32 ?_)|(with_reducible refine NInt.u64 ?_)|(with_reducible refine C1 ?_)|refine A0 (by first|decide|omega|(simp only[Ag,List.length_nil];omega)) ?_|(refine NBr.mk (fun hc=> ?_) (fun hc=> ?_)<;>(have hcP:=hc;(try simp only[decide_eq_true_eq,decide_eq_false_iff_not] at hcP)<;>first|(exfalso;omega)|skip))));(all_goals(conv=>whnf))
    refine Az (fun i:Nat=>i≤r.length) (fun i=>r.length-i) (fun i=>⟨[(10,C7 65 1 181 S7 (q::(n0-40*q)::r.take i)),(67,.d (BJ true r)),(68,iv r.length),(69,iv i)],[],[(65,((q::(n0-40*q)::r.take i).length,1,181))]⟩) 0 (by simp) leQ ?_
    intro i hi
    by_cases hik:i<r.length
    ·obtain⟨m,hm⟩:∃n,r[i]?=some n:=⟨_,Ak hik⟩
     have hmb:=k2 m (by simp[Bk hm])
     (repeat'((conv=>whnf);first|refine NIdx.tab (fun _=>rfl) hm ?_|refine A8 S7 m ?_|(with_reducible refine NInt.i64 ?_)|(with_reducible refine NInt.u32 ?_)|(refine NBr.mk (fun hc=> ?_) (fun hc=> ?_)<;>(have hcP:=hc;(try simp only[decide_eq_true_eq,decide_eq_false_iff_not] at hcP)<;>first|(exfalso;omega)|skip))));(all_goals(conv=>whnf))
     refine⟨i+1,by omega,by omega,?_⟩
     rw[G1 hm]
     exact leQ
    ·obtain rfl:i=r.length:=by omega
     rw[List.take_length]
     (repeat'((conv=>whnf);first|refine Ae ?_|refine Aa hT wU ?_|(refine NBr.mk (fun hc=> ?_) (fun hc=> ?_)<;>(have hcP:=hc;(try simp only[decide_eq_true_eq,decide_eq_false_iff_not] at hcP)<;>first|(exfalso;omega)|skip))|exact zE))
  ·rw[Cc,if_pos rfl] at he
   rw[K8 (.inl he)]
   (repeat'((conv=>whnf);first|refine Ab ?_|(refine NBr.mk (fun hc=> ?_) (fun hc=> ?_)<;>(have hcP:=hc;(try simp only[decide_eq_true_eq,decide_eq_false_iff_not] at hcP)<;>first|(exfalso;omega)|skip))|exact zE))
theorem Ni (l:Bool):∀(k n:Nat),n<128^(k+1)→(B5 l n).length≤k+1:=by
 intro k
 induction k generalizing l with
 |zero=>intro n h;rw[C5 l (by simpa using h)];simp
 |succ k ih=>
  intro n h
  by_cases h2:n<128
  ·rw[C5 l h2];simp
  ·have:=ih false (n/128) (by rw[Nat.pow_succ] at h;omega)
   rw[Ez l h2,Aj,List.length_singleton];omega
theorem gE (n:Nat) (hn:n≤4294967295):IntKind.u32.wrap ((BitVec.ofInt IntKind.u32.bits (n:Int)&&&BitVec.ofInt IntKind.u32.bits 127).toNat:Int)=((n%128:Nat):Int):=by
 rw[show(127:Int)=((127:Nat):Int) from rfl,BitVec.ofInt_natCast,BitVec.ofInt_natCast,BitVec.toNat_and,BitVec.toNat_ofNat,BitVec.toNat_ofNat]
 have hb:2^IntKind.u32.bits=4294967296:=by decide
 rw[hb,Nat.mod_eq_of_lt (by omega),Nat.mod_eq_of_lt (by omega)]
 have:=Nat.and_two_pow_sub_one_eq_mod n 7
 rw[show 2^7-1=127 from rfl] at this
 rw[this,IntWalk.u32_in _ (by omega)]
theorem BN (m:Nat) (hm:m<128):IntKind.u32.wrap ((BitVec.ofInt IntKind.u32.bits (m:Int)|||BitVec.ofInt IntKind.u32.bits 128).toNat:Int)=((m+128:Nat):Int):=by
 have h:∀x:Fin 128,IntKind.u32.wrap ((BitVec.ofInt IntKind.u32.bits (x.1:Int)|||BitVec.ofInt IntKind.u32.bits 128).toNat:Int)=((x.1+128:Nat):Int):=by decide+kernel
 exact h ⟨m,hm⟩
theorem zH (n:Nat):(n:Int).fdiv (2^(min (Int.toNat 7) IntKind.u32.bits))=((n/128:Nat):Int):=wK (k:=7) n rfl
def hiB (q:Nat):List UInt8:=if q=0 then [] else B5 false q
theorem gF (l:Bool) (n:Nat):B5 l n=hiB (n/128)++[UInt8.ofNat (n%128+if l then 0 else 128)]:=by
 unfold hiB
 by_cases h:n<128
 ·rw[C5 l h,if_pos (show n/128=0 by omega)];rfl
 ·rw[Ez l h,if_neg (show¬n/128=0 by omega)]
theorem gG (n:Nat) (hn:n≤4294967295) {c:Code} (hc:Tryz.f128.body=some c) (vs:List Value) (hv:Y1 [wv n,.ptr 6 0] vs) (W:World) (fp0 z0:Nat→Nat→Prop):
 gB Tryz.prog ⟨W,fp0,26,fun _=>none,z0⟩ tab (Rn 3 c) (fun tm bx tk=>BI vs [1] 3 (B5 true n).length 1 5 (Ar (B5 true n)) ⟨tm,bx,tk⟩) (Rq 0 vs) [] []:=by
 have hc':=Option.some.inj hc
 match vs,hv with
 |[v0,v1],hv=>
  obtain⟨rfl,-⟩:=hv
  subst hc'
  have hL:=Ni true 4 n (by omega)
  have e1:=gE n hn
  have e2:=zH n
  (repeat'((conv=>whnf);first|refine NInt.as (((n%128:Nat):Int)) (e1) ?_|refine NInt.as (((n/128:Nat):Int)) (e2) ?_|(with_reducible refine Im ?_)|refine A0 (by first|decide|omega|(simp only[Ag,List.length_nil];omega)) ?_));(all_goals(conv=>whnf))
  refine Az (fun p:Nat×List UInt8=>p.1≤4294967295∧0<p.2.length∧hiB p.1++p.2.reverse=B5 true n) (fun p=>p.1) (fun p=>⟨[(0,wv p.1),(1,.d (.v v1)),(3,Cg 7 5 p.2)],[],[(7,(p.2.length,1,5))]⟩) (n/128,[UInt8.ofNat (n%128)]) ⟨by show n/128≤_;omega,by simp,(by rw[gF];rfl)⟩ leQ ?_
  rintro⟨q,acc⟩ ⟨hq,ha,he⟩
  simp only[] at hq ha he
  have hal:acc.length≤5:=by
   have:=congrArg List.length he
   simp only[Aj,List.length_reverse] at this
   omega
  by_cases h0:q=0
  ·subst h0
   rw[hiB,if_pos rfl,List.nil_append] at he
   (repeat'((conv=>whnf);refine Ae ?_));(all_goals(conv=>whnf))
   refine A9 (Yl (l:=acc) (tm':=[(1,.d (.v v1)),(3,Cg 7 5 acc.reverse)]) Tryz.laysRev (J4 Tryz.func129 (by kernel_rfl) rfl) rfl rfl (ltN rfl) rfl rfl ha (by omega) (.v rfl (.own rfl .nil)) rfl) ?_
   (all_goals(conv=>whnf))
   rw[he]
   exact⟨7,rfl,rfl,⟨v1,rfl,rfl⟩,trivial⟩
  ·have hq2:hiB q=hiB (q/128)++[UInt8.ofNat (q%128+128)]:=by
    conv=>lhs;rw[hiB,if_neg h0,gF]
    rfl
   have e3:=gE q hq
   have e4:=BN (q%128) (by omega)
   have e5:=zH q
   rw[hq2] at he
   (repeat'((conv=>whnf);first|refine NInt.as (((q%128:Nat):Int)) (e3) ?_|refine NInt.as (((q%128+128:Nat):Int)) (e4) ?_|refine NInt.as (((q/128:Nat):Int)) (e5) ?_|(with_reducible refine Im ?_)|refine Io (_) ?_|refine A0 (by first|decide|omega|(simp only[Ag,List.length_nil];omega)) ?_|(refine Ah (fun hc hcP=> ?_) (fun hc hcP=> ?_)<;>try(exfalso;omega))));(all_goals(conv=>whnf))
   refine⟨(q/128,acc++[UInt8.ofNat (q%128+128)]),⟨by show q/128≤_;omega,by simp,?_⟩,by show q/128<q;omega,?_⟩
   ·show hiB (q/128)++(acc++[UInt8.ofNat (q%128+128)]).reverse=_
    rw[←he];simp
   ·exact leQ
theorem lV {s:List UInt8} {a:List Nat} (h:D9 s=some a):a.length≤s.length+1:=by
 unfold D9 at h
 split at h
 ·rename_i a' h1
  split at h
  ·cases h
   rw[K7 h1];exact Ng s
  ·cases h
 ·cases h
theorem Pe:∀(l:List Nat),(∀n∈l,n≤4294967295)→(l.flatMap (B5 true)).length≤5*l.length
 |[],_=>by simp
 |n::r,h=>by
  have h1:=Ni true 4 n (by have:=h n (by simp);omega)
  have h2:=Pe r (fun m hm=>h m (by simp[hm]))
  rw[List.flatMap_cons,Aj,Ag];omega
theorem Y6 (s:List UInt8) (hs:s.length≤4000000) (h:D9 s=none):Ac Tryz.prog 96 [sx s] (fun r=>r= .tup [.d (Af true []),iv 8]):=by
 have hA:=Kb s hs
 unfold Lp at hA
 rw[h] at hA
 refine acQ 40 Tryz.func96 rfl rfl fun _ _ _=> ?_
 (repeat'((conv=>whnf);first|refine Ab ?_|refine Aa hA rfl ?_|exact zE))
theorem Y7 (s:List UInt8) (hs:s.length≤4000000) {a:List Nat} (h:D9 s=some a):Ac Tryz.prog 96 [sx s] (fun r=>r= .tup [.d (Af true (Yw a)),iv 0]):=by
 have hA:=Kb s hs
 unfold Lp at hA
 rw[h] at hA
 obtain⟨k1,k2,k3⟩:=F8 h
 obtain⟨x,y,r,rfl,x2,xy,y2⟩:=Fg k1
 have h0:(x::y::r)[0]?=some x:=rfl
 have h1:(x::y::r)[1]?=some y:=rfl
 have hxy:40*x+y≤4294967295:=by
  by_cases hx:x<2
  ·have:=xy hx;omega
  ·omega
 refine acQ 40 Tryz.func96 rfl rfl fun _ _ _=> ?_
 have e1:∀z:Int,z=((40*x+y:Nat):Int)→IntKind.u32.wrap z=((40*x+y:Nat):Int):=fun z hz=>by rw[hz,IntWalk.u32_in _ (by omega)]
 have hdr:((x::y::r).drop 2).take ((x::y::r).length-2)=r:=by simp
 have hL:=Ni true 4 (40*x+y) (by omega)
 have hal:=lV h
 simp only[Ag] at hal
 (repeat'((conv=>whnf);first|refine Ae ?_|refine Aa hA rfl ?_|refine NIdx.tab (fun _=>rfl) h0 ?_|refine NIdx.tab (fun _=>rfl) h1 ?_|refine NInt.as (((40*x+y:Nat):Int)) (e1 _ (by omega)) ?_|(with_reducible refine NInt.u32 ?_)|refine zF ?_));(all_goals(conv=>whnf))
 refine Rr 3 3 200 (B5 true (40*x+y)).length 1 5 (Ar (B5 true (40*x+y))) [1] 100 26 #[] Hq mixed rfl rfl rfl rfl Tryz.func128 rfl (by kernel_rfl) rfl rfl rfl rfl rfl (fun vs hv W fp0 z0=>gG (40*x+y) hxy rfl vs hv W fp0 z0) (fun gh=> ?_)
 (repeat'((conv=>whnf);first|refine NSl.tab (fun _=>rfl) 2 (x::y::r).length r hdr ?_|(with_reducible refine O8 ?_)));(all_goals(conv=>whnf))
 refine Az (fun i:Nat=>i≤r.length) (fun i=>r.length-i) (fun i=>⟨[(6,.ptr 6 0),(7,.cl 128 [] [.ptr 6 0]),(29,.d (Vv true r)),(30,iv r.length),(31,iv i)],[(6,[Cg 125 5 (B5 true (40*x+y)++(r.take i).flatMap (B5 true))])],[(125,((B5 true (40*x+y)++(r.take i).flatMap (B5 true)).length,1,5))]⟩) 0 (by simp) (by rw[List.take_zero,List.flatMap_nil,List.append_nil];exact leQ) ?_
 intro i hi
 by_cases hik:i<r.length
 ·obtain⟨m,hm⟩:∃n,r[i]?=some n:=⟨_,Ak hik⟩
  have hmb:=k2 m (by simp[Bk hm])
  have hLm:=Ni true 4 m (by omega)
  have hLf:=Pe (r.take i) (fun n hn=>k2 n (by simp[List.mem_of_mem_take hn]))
  rw[Al] at hLf
  have hLa:(B5 true (40*x+y)++(r.take i).flatMap (B5 true)).length≤21000000:=by rw[Aj];omega
  have hsn:B5 true (40*x+y)++(r.take (i+1)).flatMap (B5 true)=B5 true (40*x+y)++(r.take i).flatMap (B5 true)++B5 true m:=by
   rw[G1 hm,List.flatMap_append,List.append_assoc];simp
  (repeat'((conv=>whnf);first|refine NIdx.tab (fun _=>rfl) hm ?_|(refine Ah (fun hc hcP=> ?_) (fun hc hcP=> ?_)<;>try(exfalso;omega))));(all_goals(conv=>whnf))
  refine Rr 3 3 200 (B5 true m).length 1 5 (Ar (B5 true m)) [1] 100 26 #[] Hq mixed rfl rfl rfl rfl Tryz.func128 rfl (by kernel_rfl) rfl rfl rfl rfl rfl (fun vs hv W fp0 z0=>gG m hmb rfl vs hv W fp0 z0) (fun gh=> ?_)
  (repeat'((conv=>whnf);first|(with_reducible refine NInt.i64 ?_)|(with_reducible refine NApp.bytes ?_)));(all_goals(conv=>whnf))
  refine⟨i+1,by omega,by omega,?_⟩
  rw[hsn]
  exact leQ
 ·obtain rfl:i=r.length:=by omega
  rw[List.take_length]
  (repeat'((conv=>whnf);(refine Ah (fun hc hcP=> ?_) (fun hc hcP=> ?_)<;>try(exfalso;omega))));(all_goals(conv=>whnf))
  all_goals exact zE
  all_goals rfl
theorem Rz (s:List UInt8) (hs:s.length≤4000000):Ac Tryz.prog 96 [sx s] (fun r=>r= .tup [.d (Af true (Cd s)),iv (Yy s)]):=by
 unfold Cd Yy
 cases h:D9 s with
 |some a=>exact Y7 s hs h
 |none=>exact Y6 s hs h
theorem P3 {n:Nat} (h:¬n<10):(Lib.decDigits n).length=(Lib.decDigits (n/10)).length+1:=by
 rw[Lib.decDigits,dif_neg h];simp
theorem V6 (n:Nat):1≤(Lib.decDigits n).length:=by
 rw[Lib.decDigits];split<;>simp
theorem Nj:∀(n m:Nat),m≤n→(Lib.decDigits m).length≤(Lib.decDigits n).length:=by
 intro n
 induction n using Nat.strongRecOn with
 |_ n ih=>
  intro m h
  by_cases h1:m<10
  ·rw[Lib.decDigits_one h1];exact V6 n
  ·have:=ih (n/10) (by omega) (m/10) (by omega)
   rw[P3 h1,P3 (n:=n) (by omega)];omega
theorem R0:∀(n:Nat) (l:Bool),(B5 l n).length≤(Lib.decDigits n).length:=by
 intro n
 induction n using Nat.strongRecOn with
 |_ n ih=>
  intro l
  by_cases h:n<128
  ·rw[C5 l h];exact V6 n
  ·have h1:=ih (n/128) (by omega) false
   have h2:=Nj (n/10) (n/128) (by omega)
   rw[Ez l h,P3 (by omega),Aj,List.length_singleton];omega
theorem Y8:∀r:List Nat,r≠[]→(r.flatMap (B5 true)).length+(r.length-1)≤(Dn r).length
 |[],h=>absurd rfl h
 |[n],_=>by have:=R0 n true;simpa[Dn] using this
 |n::m::r,_=>by
  have h1:=R0 n true
  have h2:=Y8 (m::r) (by simp)
  rw[List.flatMap_cons,Dn]
  simp only[Aj,Ag] at h2⊢
  omega
theorem gH (s:List UInt8):(Cd s).length≤s.length:=by
 unfold Cd
 cases h:D9 s with
 |none=>simp
 |some a=>
  obtain⟨k1,k2,k3⟩:=F8 h
  obtain⟨x,y,r,rfl,x2,-⟩:=Fg k1
  rw[←k3]
  have hx:=V6 x
  have hb:(B5 true (40*x+y)).length≤(Lib.decDigits y).length+1:=by
   by_cases h1:40*x+y<128
   ·rw[C5 _ h1,List.length_singleton];omega
   ·have h2:=R0 ((40*x+y)/128) false
    have h3:=Nj y ((40*x+y)/128) (by omega)
    rw[Ez _ h1,Aj,List.length_singleton];omega
  show(B5 true (40*x+y)++r.flatMap (B5 true)).length≤_
  rw[Dn,Aj,Aj,Ag]
  cases r with
  |nil=>rw[Dn];simp only[List.flatMap_nil,List.length_nil];omega
  |cons z q=>
   have h4:=Y8 (z::q) (by simp)
   rw[Dn,Aj,Ag]
   omega
theorem V7 (n:Nat):(Lib.decDigits n).length≤(Lib.decDigits (n/10)).length+1:=by
 by_cases h:n<10
 ·rw[Lib.decDigits_one h];simp
 ·rw[P3 h];omega
theorem R1:∀(n:Nat) (l:Bool),(Lib.decDigits n).length≤3*(B5 l n).length:=by
 intro n
 induction n using Nat.strongRecOn with
 |_ n ih=>
  intro l
  have h3:=V7 n
  have h4:=V7 (n/10)
  have h5:=V7 (n/10/10)
  by_cases h:n<128
  ·rw[C5 l h,List.length_singleton]
   have:(Lib.decDigits (n/10/10)).length=1:=by rw[Lib.decDigits_one (by omega)];simp
   omega
  ·have h1:=ih (n/128) (by omega) false
   have h2:=Nj (n/128) (n/10/10/10) (by omega)
   rw[Ez l h,Aj,List.length_singleton];omega
theorem Y9:∀r:List Nat,(Dn r).length≤4*(r.flatMap (B5 true)).length
 |[]=>by simp[Dn]
 |[n]=>by have:=R1 n true;simp only[Dn,List.flatMap_cons,List.flatMap_nil,List.append_nil];omega
 |n::m::r=>by
  have h1:=R1 n true
  have h2:=Y9 (m::r)
  have h3:1≤(B5 true n).length:=by
   cases h:B5 true n with
   |nil=>exact absurd h (wR _ _)
   |cons _ _=>simp
  rw[List.flatMap_cons,Dn]
  simp only[Aj,Ag] at h2⊢
  omega
theorem R2 {s:List UInt8} (h:E0 s=true):s.length≤4*(Cd s).length+4:=by
 unfold E0 at h
 unfold Cd
 cases ha:D9 s with
 |none=>rw[ha] at h;cases h
 |some a=>
  obtain⟨k1,k2,k3⟩:=F8 ha
  obtain⟨x,y,r,rfl,x2,-⟩:=Fg k1
  rw[←k3]
  have hx:(Lib.decDigits x).length=1:=by rw[Lib.decDigits_one (by omega)];simp
  have hy:=Nj (40*x+y) y (by omega)
  have hb:=R1 (40*x+y) true
  have hr:=Y9 r
  show _≤4*(B5 true (40*x+y)++r.flatMap (B5 true)).length+4
  rw[Dn,Aj,Aj,Ag]
  cases r with
  |nil=>rw[Dn];simp only[List.flatMap_nil,List.length_nil];omega
  |cons z q=>
   rw[Dn,Aj,Ag]
   omega
theorem H7 {l:List UInt8} {lo hi:Int} {A:List UInt8→Prop} (a b:Nat) (r:List UInt8) (e:(l.drop a).take (b-a)=r) (k:A r) (h:lo=a∧hi=b∧a≤b∧b≤l.length:=by(repeat' apply And.intro)<;>first|omega|rfl|(simp only[Ag,List.length_nil,Aj,Al,Aw] at*;omega)):NSlS l lo hi A:=⟨a,b,_,h.1,h.2.1,h.2.2.1,h.2.2.2,e,k⟩
theorem EH (k:Nat) (hk:k<10):(([48,49,50,51,52,53,54,55,56,57]:List UInt8).drop k).take (k+1-k)=[UInt8.ofNat (48+k)]:=by
 have h:∀k:Fin 10,(([48,49,50,51,52,53,54,55,56,57]:List UInt8).drop k.1).take (k.1+1-k.1)=[UInt8.ofNat (48+k.1)]:=by decide+kernel
 exact h ⟨k,hk⟩
theorem Iv (l:Bool):∀(k n:Nat),n<128^(k+1)→(B5 l n).length≤k+1:=by
 intro k
 induction k generalizing l with
 |zero=>intro n h;rw[C5 l (by simpa using h)];simp
 |succ k ih=>
  intro n h
  by_cases h2:n<128
  ·rw[C5 l h2];simp
  ·have:=ih false (n/128) (by rw[Nat.pow_succ] at h;omega)
   rw[Ez l h2,Aj,List.length_singleton];omega
theorem Za (n:Nat):n≤4294967295→Ac Tryz.prog 256 [uv n] (fun r=>r=sx (Lib.decDigits n)):=by
 induction n using Nat.strongRecOn with
 |_ n ih=>
  intro hn
  have hd:=EH (n%10) (by omega)
  by_cases h:n<10
  ·have g:decide ((n:Int)<10)=true:=decide_eq_true (by omega)
   have e:Lib.decDigits n=[UInt8.ofNat (48+n%10)]:=by rw[Lib.decDigits,dif_pos h,Nat.mod_eq_of_lt h]
   rw[e]
   refine acQ 18 Tryz.func256 rfl rfl fun _ _ _=> ?_
   (repeat'((conv=>whnf);first|refine Av asP ?_|(refine H7 (n%10) (n%10+1) _ hd ?_)|(with_reducible refine NInt.u64 ?_)|(with_reducible refine Ca ?_)|refine A0 (by first|decide|omega|(simp only[Ag,List.length_nil];omega)) ?_|exact zE))
  ·have g:decide ((n:Int)<10)=false:=decide_eq_false (by omega)
   have e:Lib.decDigits n=Lib.decDigits (n/10)++[UInt8.ofNat (48+n%10)]:=by rw[Lib.decDigits,dif_neg h]
   have hI:=ih (n/10) (by omega) (by omega)
   have hl:=V4 (n/10) (by omega)
   rw[e]
   refine acQ 18 Tryz.func256 rfl rfl fun _ _ _=> ?_
   (repeat'((conv=>whnf);first|refine Ay asP ?_|(refine H7 (n%10) (n%10+1) _ hd ?_)|refine Aa hI rfl ?_|(with_reducible refine NInt.u64 ?_)|(with_reducible refine C1 ?_)|(with_reducible refine Ca ?_)|refine A0 (by first|decide|omega|(simp only[Ag,List.length_nil];omega)) ?_|exact zE))
def Lq:Nat→List UInt8→Option Nat
 |a,[]=>some a
 |a,c::r=>if c.toNat<48∨c.toNat>57∨a>4294967295 then none else Lq (a*10+(c.toNat-48)) r
def V8 (s:List UInt8):Nat:=(Lq 0 s).getD 0
def S8 (s:List UInt8):Bool:=match Lq 0 s with
 |some n=>decide (s≠[])&&(decide (n≤4294967295)&&decide (Lib.decDigits n=s))
 |none=>false
theorem T6:∀(l:List UInt8) (a:Nat),(∀b∈l,48≤b.toNat∧b.toNat≤57)→Nd a l≤4294967295→Lq a l=some (Nd a l)
 |[],_,_,_=>by rw[Lq,Rl]
 |c::r,a,h1,h2=>by
  have hc:=h1 c (by simp)
  have hg:=Vs r (a*10+(c.toNat-48))
  rw[Iu] at h2⊢
  rw[Lq,if_neg (by omega)]
  exact T6 r _ (fun b hb=>h1 b (by simp[hb])) h2
theorem rN (s:List UInt8):Lh s=if S8 s then some (V8 s) else none:=by
 cases h:Lh s with
 |some n=>
  obtain⟨h1,h2⟩:=K6 h
  have hs:=T6 (Lib.decDigits n) 0 (fZ n) (by rw[Nf];exact h1)
  rw[Nf,h2] at hs
  have hne:s≠[]:=by rw[←h2];exact rC n
  unfold S8 V8
  rw[hs]
  simp only[decide_eq_true hne,decide_eq_true h1,decide_eq_true h2,Bool.and_self,if_true,Option.getD_some]
 |none=>
  rw[if_neg]
  intro hb
  unfold S8 at hb
  split at hb
  ·rename_i n hn
   simp only[Ap,decide_eq_true_eq] at hb
   have:=rD hb.2.1
   rw[hb.2.2,h] at this
   cases this
  ·cases hb
theorem Zb (s:List UInt8) (hs:s.length≤4000000):Ac Tryz.prog 228 [sx s] (fun r=>r= .tup [uv (V8 s),bv (S8 s)]):=by
 refine acQ 47 Tryz.func228 rfl rfl fun _ _ _=> ?_
 (all_goals(conv=>whnf))
 refine Az (fun p:Nat×Nat=>p.1≤s.length∧p.2≤42949672959∧Lq 0 s=Lq p.2 (s.drop p.1)) (fun p=>s.length-p.1) (fun p=>⟨[(0,sx s),(4,uv p.2),(5,iv p.1)],[],[]⟩) (0,0) ⟨by simp,by simp,rfl⟩ leQ ?_
 rintro⟨i,n⟩ ⟨hi,hn,he⟩
 simp only at hi hn he
 by_cases hik:i<s.length
 ·obtain⟨c,hx⟩:∃p,s[i]?=some p:=⟨_,Ak hik⟩
  have hcl:=c.toNat_lt
  rw[Ry hx,Lq] at he
  by_cases h1:c.toNat<48∨c.toNat>57∨n>4294967295
  ·rw[if_pos h1] at he
   rw[show V8 s=0 by unfold V8;rw[he];rfl,show S8 s=false by unfold S8;rw[he]]
   by_cases d1:c.toNat<48
   ·have g1:decide ((c.toNat:Int)<48)=true:=decide_eq_true (by omega)
    (repeat'((conv=>whnf);first|refine Ab ?_|refine Av asP ?_|refine Bv hx ?_|(refine Ah (fun hc hcP=> ?_) (fun hc hcP=> ?_)<;>try(exfalso;omega))|exact zE))
   ·have g1:decide ((c.toNat:Int)<48)=false:=decide_eq_false (by omega)
    by_cases d2:c.toNat>57
    ·have g2:decide ((c.toNat:Int)>57)=true:=decide_eq_true (by omega)
     (repeat'((conv=>whnf);first|refine Ab ?_|refine Ae ?_|refine Av asP ?_|refine Ay asP ?_|refine Bv hx ?_|(refine Ah (fun hc hcP=> ?_) (fun hc hcP=> ?_)<;>try(exfalso;omega))|exact zE))
    ·have g2:decide ((c.toNat:Int)>57)=false:=decide_eq_false (by omega)
     have g3:decide ((n:Int)>4294967295)=true:=decide_eq_true (by omega)
     (repeat'((conv=>whnf);first|refine Ae ?_|refine Av asP ?_|refine Ay asP ?_|refine Bv hx ?_|(refine Ah (fun hc hcP=> ?_) (fun hc hcP=> ?_)<;>try(exfalso;omega))|exact zE))
  ·rw[if_neg h1] at he
   have g1:decide ((c.toNat:Int)<48)=false:=decide_eq_false (by omega)
   have g2:decide ((c.toNat:Int)>57)=false:=decide_eq_false (by omega)
   have g3:decide ((n:Int)>4294967295)=false:=decide_eq_false (by omega)
   have e1:∀z:Int,z=((n*10+(c.toNat-48):Nat):Int)→IntKind.u64.wrap z=((n*10+(c.toNat-48):Nat):Int):=fun z hz=>by rw[hz,IntWalk.u64_in _ (by omega)]
   (repeat'((conv=>whnf);first|refine Ae ?_|refine Ay asP ?_|refine Bv hx ?_|refine NInt.as (((n*10+(c.toNat-48):Nat):Int)) (e1 _ (by omega)) ?_|(with_reducible refine NInt.i64 ?_)|(with_reducible refine NInt.u8 ?_)|(with_reducible refine NInt.u64 ?_)|(refine Ah (fun hc hcP=> ?_) (fun hc hcP=> ?_)<;>try(exfalso;omega))));(all_goals(conv=>whnf))
   refine⟨(i+1,n*10+(c.toNat-48)),⟨by show i+1≤_;omega,by show n*10+(c.toNat-48)≤_;omega,he⟩,by show s.length-(i+1)<s.length-i;omega,?_⟩
   exact leQ
 ·obtain rfl:i=s.length:=by omega
  rw[List.drop_length,Lq] at he
  rw[show V8 s=n by unfold V8;rw[he];rfl,show S8 s=(decide (s≠[])&&(decide (n≤4294967295)&&decide (Lib.decDigits n=s))) by unfold S8;rw[he]]
  have z0:(s !=[])=decide (s≠[]):=by cases s<;>rfl
  by_cases d1:s=[]
  ·have g1:(s !=[])=false:=by rw[d1];rfl
   rw[show decide (s≠[])=false from decide_eq_false (by simp[d1])]
   (repeat'((conv=>whnf);first|refine Ae ?_|refine Ay asP ?_|(refine Ah (fun hc hcP=> ?_) (fun hc hcP=> ?_)<;>try(exfalso;omega))|exact zE))
  ·have g1:(s !=[])=true:=by rw[z0];exact decide_eq_true d1
   rw[show decide (s≠[])=true from decide_eq_true d1,Bool.true_and]
   by_cases d2:n≤4294967295
   ·have g2:decide ((n:Int)≤4294967295)=true:=decide_eq_true (by omega)
    rw[decide_eq_true d2,Bool.true_and,←zG]
    have hD:=Za n d2
    (repeat'((conv=>whnf);first|refine Ab ?_|refine Av asP ?_|refine Aa hD rfl ?_|(refine Ah (fun hc hcP=> ?_) (fun hc hcP=> ?_)<;>try(exfalso;omega))|exact zE))
   ·have g2:decide ((n:Int)≤4294967295)=false:=decide_eq_false (by omega)
    rw[decide_eq_false d2,Bool.false_and]
    (repeat'((conv=>whnf);first|refine Ab ?_|refine Ae ?_|refine Av asP ?_|refine Ay asP ?_|(refine Ah (fun hc hcP=> ?_) (fun hc hcP=> ?_)<;>try(exfalso;omega))|exact zE))
theorem dI (a:List Nat) (ha:a.length≤1000000000):Ac Tryz.prog 229 [.d (Vv false a)] (fun r=>r=bv (Cz a)):=by
 match a,ha with
 |[],_=>
  refine acQ 34 Tryz.func229 rfl rfl fun _ _ _=> ?_
  (repeat'((conv=>whnf);refine Ab ?_));(all_goals(conv=>whnf))
  all_goals exact zE
 |[x],_=>
  refine acQ 34 Tryz.func229 rfl rfl fun _ _ _=> ?_
  (repeat'((conv=>whnf);refine Ab ?_));(all_goals(conv=>whnf))
  all_goals exact zE
 |x::y::r,ha=>
  have h0:(x::y::r)[0]?=some x:=rfl
  have h1:(x::y::r)[1]?=some y:=rfl
  simp only[Ag] at ha
  by_cases c1:x≤2
  ·have g1:decide ((x:Int)>2)=false:=decide_eq_false (by omega)
   by_cases c2:x<2
   ·have g2:decide ((x:Int)<2)=true:=decide_eq_true (by omega)
    have g3:((x:Int)==2)=false:=by rw[beq_eq_false_iff_ne];omega
    have e:Cz (x::y::r)=decide ((y:Int)<40):=by
     rw[Cz,if_pos c2,decide_eq_true c1,Bool.true_and,decide_eq_decide];omega
    rw[e]
    cases g4:decide ((y:Int)<40)
    ·refine acQ 34 Tryz.func229 rfl rfl fun _ _ _=> ?_
     (repeat'((conv=>whnf);first|refine Ab ?_|refine Ae ?_|refine Av asP ?_|refine Ay asP ?_|refine NIdx.tab (fun _=>rfl) h0 ?_|refine NIdx.tab (fun _=>rfl) h1 ?_|exact zE))
    ·refine acQ 34 Tryz.func229 rfl rfl fun _ _ _=> ?_
     (repeat'((conv=>whnf);first|refine Ab ?_|refine Ae ?_|refine Av asP ?_|refine Ay asP ?_|refine NIdx.tab (fun _=>rfl) h0 ?_|refine NIdx.tab (fun _=>rfl) h1 ?_|exact zE))
   ·have g2:decide ((x:Int)<2)=false:=decide_eq_false (by omega)
    have g3:((x:Int)==2)=true:=by rw[beq_iff_eq];omega
    have e:Cz (x::y::r)=decide ((y:Int)≤4294967215):=by
     rw[Cz,if_neg c2,decide_eq_true c1,Bool.true_and,decide_eq_decide];omega
    rw[e]
    refine acQ 34 Tryz.func229 rfl rfl fun _ _ _=> ?_
    (repeat'((conv=>whnf);first|refine Ab ?_|refine Ae ?_|refine Av asP ?_|refine Ay asP ?_|refine NIdx.tab (fun _=>rfl) h0 ?_|refine NIdx.tab (fun _=>rfl) h1 ?_|exact zE))
  ·have g1:decide ((x:Int)>2)=true:=decide_eq_true (by omega)
   have e:Cz (x::y::r)=false:=by rw[Cz,decide_eq_false c1];rfl
   rw[e]
   refine acQ 34 Tryz.func229 rfl rfl fun _ _ _=> ?_
   (repeat'((conv=>whnf);first|refine Ae ?_|refine Av asP ?_|refine NIdx.tab (fun _=>rfl) h0 ?_|exact zE))
theorem R3 {a:List Nat} {o:Option (List Nat)} {n:Nat}:Gj a (match some n,o with|some n,some l=>some (n::l)|_,_=>none)=Gj (a++[n]) o:=by
 cases o with
 |none=>rfl
 |some l=>show some (a++n::l)=some (a++[n]++l);simp
theorem lW (o:Option (List Nat)):Gj [] o=o:=by cases o<;>rfl
theorem rO {s:List UInt8} {i frm:Nat} {c:UInt8} (h:s[i]?=some c) (hf:frm≤i):(s.drop frm).take (i+1-frm)=(s.drop frm).take (i-frm)++[c]:=by
 have:(s.drop frm)[i-frm]?=some c:=by rw[List.getElem?_drop,show frm+(i-frm)=i by omega];exact h
 rw[show i+1-frm=(i-frm)+1 by omega,G1 this]
def Kc (s:List UInt8) (frm i:Nat):List (List UInt8):=if i≤s.length then Lo ((s.drop frm).take (i-frm)) (s.drop i) else []
theorem gI {p:Prop} (h:p:=by first|rfl|(simp only[AV.gives,AV.ren,AV.give,D.un,D.uns,Ai,Am,List.nil_append,List.append_nil,List.cons_append,Vw,Ka,Vx,C7,Vy,Vz,V1];first|done|rfl)):p:=h
theorem Ok (s:List UInt8) (hs:s.length≤3500000):Ac Tryz.prog 195 [sx s] (fun r=>r=Lp s):=by
 unfold Lp D9
 have hd0:Dh (Fj s)=Gj [] (Dh (Kc s 0 0)):=by
  rw[lW];unfold Kc;rw[if_pos (by omega)]
  show _=Dh (Lo [] s)
  rw[lL]
 generalize Dh (Fj s)=q at hd0⊢
 refine acQ 46 Tryz.func195 rfl rfl fun _ _ _=> ?_
 (all_goals(conv=>whnf))
 refine Bt [.s 4 1 181] (fun p:Nat×Nat×List Nat=>p.1≤s.length+1∧p.2.1≤p.1∧p.2.2.length≤p.1∧q=Gj p.2.2 (Dh (Kc s p.2.1 p.1))) (fun p=>s.length+1-p.1) (fun p=>⟨[(0,sx s),(4,C7 4 1 181 S7 p.2.2),(5,iv p.2.1),(6,iv p.1)],[],[(4,(p.2.2.length,1,181))]⟩) (0,0,[]) ⟨by simp,by simp,by simp,hd0⟩ leQ ?_
 rintro⟨i,frm,ns⟩ ⟨hi,hfi,hnl,he⟩
 simp only at hi hfi hnl he
 by_cases hik:i≤s.length
 ·have gi:decide ((i:Int)≤s.length)=true:=decide_eq_true (by omega)
  have hN:=Zb ((s.drop frm).take (i-frm)) (by rw[Al,Aw];omega)
  have hA:=rN ((s.drop frm).take (i-frm))
  unfold Kc at he
  rw[if_pos hik] at he
  by_cases hil:i<s.length
  ·have gl:decide ((i:Int)<s.length)=true:=decide_eq_true (by omega)
   obtain⟨c,hx⟩:∃p,s[i]?=some p:=⟨_,Ak hil⟩
   rw[Ry hx,Lo] at he
   by_cases hd:c=46
   ·subst hd
    have gd:(((46:UInt8).toNat:Int) !=46)=false:=by decide
    rw[if_pos rfl,Dh,hA] at he
    cases hb:S8 ((s.drop frm).take (i-frm))
    ·rw[hb] at he hN
     have he':q=none:=by rw[he];rfl
     subst he'
     (repeat'((conv=>whnf);first|refine Ab ?_|refine Ae ?_|refine Av asP ?_|refine Bv hx ?_|refine NSlS.bytes (frm) (i) ?_|refine Aa hN rfl ?_|exact zE))
    ·rw[hb] at he hN
     generalize hn:V8 ((s.drop frm).take (i-frm))=n at he hN
     have hn2:n≤4294967295:=by rw[hb,hn] at hA;exact(K6 hA).1
     rw[if_pos rfl] at he;replace he:=he.trans R3
     (repeat'((conv=>whnf);first|refine Ab ?_|refine Ae ?_|refine Av asP ?_|refine Bv hx ?_|refine NSlS.bytes (frm) (i) ?_|refine Aa hN rfl ?_|refine A8 S7 n ?_|(with_reducible refine NInt.i64 ?_)|(with_reducible refine NInt.u32 ?_)));(all_goals(conv=>whnf))
     refine⟨(i+1,i+1,ns++[n]),⟨by show i+1≤_;omega,Nat.le_refl _,by simp;omega,?_⟩,by show s.length+1-(i+1)<s.length+1-i;omega,?_⟩
     ·show q=Gj (ns++[n]) (Dh (Kc s (i+1) (i+1)))
      unfold Kc
      rw[if_pos (by omega),Nat.sub_self,List.take_zero];exact he
     ·exact leQ
   ·have gd:((c.toNat:Int) !=46)=true:=by
     rw[bne_iff_ne];intro h;exact hd (UInt8.toNat_inj.1 (by show c.toNat=46;omega))
    rw[if_neg hd] at he
    (repeat'((conv=>whnf);first|refine Ab ?_|refine Av asP ?_|refine Bv hx ?_|(with_reducible refine NInt.i64 ?_)));(all_goals(conv=>whnf))
    refine⟨(i+1,frm,ns),⟨by show i+1≤_;omega,by show frm≤i+1;omega,by show ns.length≤i+1;omega,?_⟩,by show s.length+1-(i+1)<s.length+1-i;omega,?_⟩
    ·show q=Gj ns (Dh (Kc s frm (i+1)))
     unfold Kc
     rw[if_pos (by omega),rO hx hfi];exact he
    ·exact leQ
  ·have hie:i=s.length:=by omega
   have gl:decide ((i:Int)<s.length)=false:=decide_eq_false (by omega)
   rw[show s.drop i=[] by rw[hie,List.drop_length],Lo,Dh,hA] at he
   cases hb:S8 ((s.drop frm).take (i-frm))
   ·rw[hb] at he hN
    have he':q=none:=by rw[he];rfl
    subst he'
    (repeat'((conv=>whnf);first|refine Ab ?_|refine Ae ?_|refine Av asP ?_|refine Ay asP ?_|refine NSlS.bytes (frm) (i) ?_|refine Aa hN rfl ?_|exact zE))
   ·rw[hb] at he hN
    generalize hn:V8 ((s.drop frm).take (i-frm))=n at he hN
    have hn2:n≤4294967295:=by rw[hb,hn] at hA;exact(K6 hA).1
    rw[if_pos rfl] at he;replace he:=he.trans (R3 (a:=ns) (n:=n) (o:=Dh []))
    (repeat'((conv=>whnf);first|refine Ae ?_|refine Av asP ?_|refine Ay asP ?_|refine NSlS.bytes (frm) (i) ?_|refine Aa hN rfl ?_|refine A8 S7 n ?_|(with_reducible refine NInt.i64 ?_)|(with_reducible refine NInt.u32 ?_)));(all_goals(conv=>whnf))
    refine⟨(i+1,i+1,ns++[n]),⟨by show i+1≤_;omega,Nat.le_refl _,by simp;omega,?_⟩,by show s.length+1-(i+1)<s.length+1-i;omega,?_⟩
    ·show q=Gj (ns++[n]) (Dh (Kc s (i+1) (i+1)))
     unfold Kc
     rw[if_neg (by omega)];exact he
    ·exact leQ
 ·have gi:decide ((i:Int)≤s.length)=false:=decide_eq_false (by omega)
  unfold Kc at he
  rw[if_neg hik,Dh] at he
  have he':q=some ns:=by rw[he];show some (ns++[])=_;rw[List.append_nil]
  subst he'
  have hR:=dI ns (by omega)
  cases hr:Cz ns
  ·rw[hr] at hR
   simp only[hr]
   (repeat'((conv=>whnf);first|refine Ab ?_|refine Ay asP ?_|refine Aa hR gI ?_|exact zE))
  ·rw[hr] at hR
   simp only[hr]
   (repeat'((conv=>whnf);first|refine Ae ?_|refine Ay asP ?_|refine Aa hR gI ?_|exact zE))
theorem H8 (s:List UInt8) (hs:s.length≤3500000):Ac Tryz.prog 142 [sx s] (fun r=>r=bv (E0 s)):=by
 have hA:=Ok s hs
 unfold Lp at hA
 unfold E0
 generalize D9 s=q at hA⊢
 cases q with
 |none=>
  refine acQ 12 Tryz.func142 rfl rfl fun _ _ _=> ?_
  (repeat'((conv=>whnf);refine Aa hA rfl ?_));(all_goals(conv=>whnf))
  all_goals exact zE
 |some a=>
  refine acQ 12 Tryz.func142 rfl rfl fun _ _ _=> ?_
  (repeat'((conv=>whnf);refine Aa hA rfl ?_));(all_goals(conv=>whnf))
  all_goals exact zE
theorem T7 (n:Nat):n≤4294967295→∀l:Bool,Ac Tryz.prog 210 [uv n,bv l] (fun r=>r=Cg 0 5 (B5 l n)):=by
 induction n using Nat.strongRecOn with
 |_ n ih=>
  intro hn l
  have hx:(n%128+if l=true then 0 else 128)<256:=by cases l<;>simp<;>omega
  by_cases h:n<128
  ·have g:decide ((n:Int)<128)=true:=decide_eq_true (by omega)
   rw[C5 l h]
   cases l
   ·refine acQ 23 Tryz.func210 rfl rfl fun _ _ _=> ?_
    (repeat'((conv=>whnf);first|refine Ab ?_|refine Av asP ?_|refine NInt.as (((UInt8.ofNat (n%128+128)).toNat:Int)) ((by rw[UInt8.toNat_ofNat',IntWalk.u8_in _ (by omega)];omega)) ?_|(with_reducible refine NInt.u8 ?_)|(with_reducible refine Ca ?_)|refine A0 (by first|decide|omega|(simp only[Ag,List.length_nil];omega)) ?_|exact zE))
    all_goals rfl
   ·refine acQ 23 Tryz.func210 rfl rfl fun _ _ _=> ?_
    (repeat'((conv=>whnf);first|refine Ae ?_|refine Av asP ?_|refine NInt.as (((UInt8.ofNat (n%128+0)).toNat:Int)) ((by rw[UInt8.toNat_ofNat',IntWalk.u8_in _ (by omega)];omega)) ?_|(with_reducible refine Ca ?_)|refine A0 (by first|decide|omega|(simp only[Ag,List.length_nil];omega)) ?_|exact zE))
    all_goals rfl
  ·have g:decide ((n:Int)<128)=false:=decide_eq_false (by omega)
   have hI:=ih (n/128) (by omega) (by omega) false
   have hL:=Iv false 4 (n/128) (by omega)
   rw[Ez l h]
   cases l
   ·refine acQ 23 Tryz.func210 rfl rfl fun _ _ _=> ?_
    (repeat'((conv=>whnf);first|refine Ab ?_|refine Ay asP ?_|refine NInt.as (((UInt8.ofNat (n%128+128)).toNat:Int)) ((by rw[UInt8.toNat_ofNat',IntWalk.u8_in _ (by omega)];omega)) ?_|refine Aa hI rfl ?_|refine Io (_) ?_|(with_reducible refine NInt.u8 ?_)|(with_reducible refine C1 ?_)|(with_reducible refine Ca ?_)|refine A0 (by first|decide|omega|(simp only[Ag,List.length_nil];omega)) ?_|exact zE))
    all_goals rfl
   ·refine acQ 23 Tryz.func210 rfl rfl fun _ _ _=> ?_
    (repeat'((conv=>whnf);first|refine Ae ?_|refine Ay asP ?_|refine NInt.as (((UInt8.ofNat (n%128+0)).toNat:Int)) ((by rw[UInt8.toNat_ofNat',IntWalk.u8_in _ (by omega)];omega)) ?_|refine Aa hI rfl ?_|refine Io (_) ?_|(with_reducible refine C1 ?_)|(with_reducible refine Ca ?_)|refine A0 (by first|decide|omega|(simp only[Ag,List.length_nil];omega)) ?_|exact zE))
    all_goals rfl
theorem Jd:∀(l:List Nat),(∀n∈l,n≤4294967295)→(l.flatMap (B5 true)).length≤5*l.length
 |[],_=>by simp
 |n::r,h=>by
  have h1:=Iv true 4 n (by have:=h n (by simp);omega)
  have h2:=Jd r (fun m hm=>h m (by simp[hm]))
  rw[List.flatMap_cons,Aj,Ag];omega
theorem R4 {s:List UInt8} {a:List Nat} (h:D9 s=some a):a.length≤s.length+1:=by
 unfold D9 at h
 split at h
 ·rename_i a' h1
  split at h
  ·cases h
   rw[K7 h1];exact Ng s
  ·cases h
 ·cases h
theorem V9 (s:List UInt8) (hs:s.length≤3500000) {a:List Nat} (h:D9 s=some a):Ac Tryz.prog 167 [sx s] (fun r=>r= .tup [.d (Af true (Yw a)),iv 0]):=by
 have hA:=Ok s hs
 unfold Lp at hA
 rw[h] at hA
 obtain⟨k1,k2,k3⟩:=F8 h
 have hal:=R4 h
 obtain⟨x,y,r,rfl,x2,xy,y2⟩:=Fg k1
 have h0:(x::y::r)[0]?=some x:=rfl
 have h1:(x::y::r)[1]?=some y:=rfl
 have hxy:40*x+y≤4294967295:=by
  by_cases hx:x<2
  ·have:=xy hx;omega
  ·omega
 have e1:∀z:Int,z=((40*x+y:Nat):Int)→IntKind.u64.wrap z=((40*x+y:Nat):Int):=fun z hz=>by rw[hz,IntWalk.u64_in _ (by omega)]
 have hL:=Iv true 4 (40*x+y) (by omega)
 simp only[Ag] at hal
 have hB:=T7 (40*x+y) hxy true
 refine acQ 41 Tryz.func167 rfl rfl fun _ _ _=> ?_
 (repeat'((conv=>whnf);first|refine Ae ?_|refine Aa hA rfl ?_|refine NIdx.tab (fun _=>rfl) h0 ?_|refine NIdx.tab (fun _=>rfl) h1 ?_|refine NInt.as (((40*x+y:Nat):Int)) (e1 _ (by omega)) ?_|refine Aa hB rfl ?_|(with_reducible refine NInt.u64 ?_)|refine zF ?_));(all_goals(conv=>whnf))
 refine Az (fun i:Nat=>2≤i∧i≤r.length+2) (fun i=>r.length+2-i) (fun i=>⟨[(4,.d (Vv true (x::y::r))),(6,Cg 25 5 (B5 true (40*x+y)++(r.take (i-2)).flatMap (B5 true))),(7,iv i)],[],[(25,((B5 true (40*x+y)++(r.take (i-2)).flatMap (B5 true)).length,1,5))]⟩) 2 ⟨by omega,by omega⟩ (by rw[Nat.sub_self,List.take_zero,List.flatMap_nil,List.append_nil];exact leQ) ?_
 rintro i ⟨hi2,hi⟩
 obtain⟨j,rfl⟩:∃j,i=j+2:=⟨i-2,by omega⟩
 rw[Nat.add_sub_cancel]
 by_cases hik:j<r.length
 ·obtain⟨m,hm⟩:∃n,r[j]?=some n:=⟨_,Ak hik⟩
  have hm2:(x::y::r)[j+2]?=some m:=hm
  have hmb:=k2 m (by simp[Bk hm])
  have hLm:=Iv true 4 m (by omega)
  have hLf:=Jd (r.take j) (fun n hn=>k2 n (by simp[List.mem_of_mem_take hn]))
  rw[Al] at hLf
  have hLa:(B5 true (40*x+y)++(r.take j).flatMap (B5 true)).length≤21000000:=by rw[Aj];omega
  have hsn:B5 true (40*x+y)++(r.take (j+1)).flatMap (B5 true)=B5 true (40*x+y)++(r.take j).flatMap (B5 true)++B5 true m:=by
   rw[G1 hm,List.flatMap_append,List.append_assoc];simp
  have hBm:=T7 m hmb true
  have gi:decide (((j+2:Nat):Int)<((x::y::r).length:Nat))=true:=decide_eq_true (by simp only[Ag];omega)
  (repeat'((conv=>whnf);first|refine Av asP ?_|refine NIdx.tab (fun _=>rfl) hm2 ?_|refine Aa hBm rfl ?_|(with_reducible refine NInt.i64 ?_)|(with_reducible refine NInt.u64 ?_)|(with_reducible refine NApp.bytes ?_)));(all_goals(conv=>whnf))
  refine⟨j+1+2,⟨by omega,by omega⟩,by omega,?_⟩
  rw[Nat.add_sub_cancel,hsn]
  exact leQ
 ·obtain rfl:j=r.length:=by omega
  have gi:decide (((r.length+2:Nat):Int)<((x::y::r).length:Nat))=false:=decide_eq_false (by simp only[Ag];omega)
  rw[List.take_length]
  (repeat'((conv=>whnf);refine Ay asP ?_));(all_goals(conv=>whnf))
  all_goals exact zE
  all_goals rfl
theorem Wa (s:List UInt8) (hs:s.length≤3500000) (h:D9 s=none):Ac Tryz.prog 167 [sx s] (fun r=>r= .tup [.d (Af true []),iv 8]):=by
 have hA:=Ok s hs
 unfold Lp at hA
 rw[h] at hA
 refine acQ 41 Tryz.func167 rfl rfl fun _ _ _=> ?_
 (repeat'((conv=>whnf);first|refine Ab ?_|refine Aa hA rfl ?_|exact zE))
theorem Zc (s:List UInt8) (hs:s.length≤3500000):Ac Tryz.prog 167 [sx s] (fun r=>r= .tup [.d (Af true (Cd s)),iv (Yy s)]):=by
 unfold Cd Yy
 cases h:D9 s with
 |some a=>exact V9 s hs h
 |none=>exact Wa s hs h
theorem Gk (f:Bool) (g:Bool) (a b:List UInt8) (_:a.length≤1000000000) (_:b.length≤1000000000):Ac Tryz.prog 17 [.d (Af f a),.d (Af g b)] (fun r=>r=bv (a==b)):=by
 refine acQ 10 Tryz.func17 rfl rfl fun _ _ _=> ?_
 (repeat'((conv=>whnf);(with_reducible refine Gf ?_)));(all_goals(conv=>whnf))
 all_goals exact zE
inductive S where
 |mk (at' stop c n:Nat) (k:Bool) (b:List UInt8) (ks:List S)
def S.stop:S→Nat
 | .mk _ stop _ _ _ _ _=>stop
mutual
def gJ (t:Bool):S→List D
 | .mk _ _ c n k b ks=>[.v (.int .i64 c),.v (.int .i64 n),.v (.bool k),Af t b,.sl t ks.length 5 (H9 t ks)]
def H9 (t:Bool):List S→List D
 |[]=>[]
 |s::r=>gJ t s++H9 t r
end
mutual
def gK (t:Bool):S→List D
 | .mk a e c n k b ks=>[.v (.int .i64 a),.v (.int .i64 e),.v (.int .i64 c),.v (.int .i64 n),.v (.bool k),Af t b,.sl t ks.length 5 (H9 t ks),.sl t ks.length 8 (Ke t ks)]
def Ke (t:Bool):List S→List D
 |[]=>[]
 |s::r=>gK t s++Ke t r
end
theorem lX (t:Bool) (l:List S):H9 t l=l.flatMap (gJ t):=by
 induction l with
 |nil=>rw[H9];rfl
 |cons s r ih=>rw[H9,ih,List.flatMap_cons]
theorem lY (t:Bool) (l:List S):Ke t l=l.flatMap (gK t):=by
 induction l with
 |nil=>rw[Ke];rfl
 |cons s r ih=>rw[Ke,ih,List.flatMap_cons]
structure SR where
 l:List S
 code:Nat
 off:Nat
def SR.bad (code off:Nat):SR:=⟨[],code,off⟩
def R5 (x:S) (r:SR):SR:=if r.code=0 then⟨x::r.l,0,0⟩ else⟨[],r.code,r.off⟩
theorem Nk {x:S} {r:SR} (h:r.code=0):R5 x r=⟨x::r.l,0,0⟩:=if_pos h
theorem K9 {x:S} {r:SR} (h:r.code≠0):R5 x r=⟨[],r.code,r.off⟩:=if_neg h
def Fw (rd:Nat→SR) (en:Nat):Nat→Nat→SR
 |0,_=>⟨[],0,0⟩
 |f+1,at'=>if at'<en then
   match rd at' with
   |⟨s::_,0,_⟩=>R5 s (Fw rd en f s.stop)
   |r=>⟨[],r.code,r.off⟩
  else⟨[],0,0⟩
theorem Iw {rd:Nat→SR} {en f at':Nat} {s:S} (h:at'<en) (h1:rd at'=⟨[s],0,0⟩):Fw rd en (f+1) at'=R5 s (Fw rd en f s.stop):=by
 rw[Fw,if_pos h,h1];rfl
theorem Kf {rd:Nat→SR} {en f at':Nat} (h:at'<en) (h1:(rd at').code≠0):Fw rd en (f+1) at'=⟨[],(rd at').code,(rd at').off⟩:=by
 rw[Fw,if_pos h]
 generalize rd at'=r at*
 obtain⟨l,c,o⟩:=r
 cases c with
 |zero=>exact absurd rfl h1
 |succ c=>cases l<;>rfl
theorem F9 {rd:Nat→SR} {en f at':Nat} (h:¬at'<en):Fw rd en f at'=⟨[],0,0⟩:=by
 cases f with
 |zero=>rfl
 |succ f=>rw[Fw,if_neg h]
def Ix (b:List UInt8) (kids:Nat→Nat→SR) (at' en:Nat) (h:Hd):SR:=
 if h.code≠0 then .bad h.code (at'+h.off)
 else if en-at'<h.size+h.len then .bad 1 en
 else if h.k=false then⟨[.mk at' (at'+h.size+h.len) h.c h.n false ((b.drop (at'+h.size)).take h.len) []],0,0⟩
 else if(kids (at'+h.size) (at'+h.size+h.len)).code≠0 then .bad (kids (at'+h.size) (at'+h.size+h.len)).code (kids (at'+h.size) (at'+h.size+h.len)).off
 else⟨[.mk at' (at'+h.size+h.len) h.c h.n true [] (kids (at'+h.size) (at'+h.size+h.len)).l],0,0⟩
def Db (rd:Nat→Nat→SR) (at' en:Nat):SR:=Fw (fun p=>rd p en) en (en-at') at'
def Bg (b:List UInt8):Nat→Nat→Nat→SR
 |0,at',_=> .bad 5 at'
 |d+1,at',en=>Ix b (Db (Bg b d)) at' en (rhS ((b.drop at').take (en-at')))
def Rds (rd:Nat→SR) (en:Nat):Prop:=∀p,p≤en→((rd p).code=0→∃s:S,rd p=⟨[s],0,0⟩∧p+2≤s.stop∧s.stop≤en)∧((rd p).code≠0→(rd p).off≤en∧(rd p).l=[])
theorem dJ {rd:Nat→SR} {en:Nat} (hr:Rds rd en):∀(f g at':Nat),en-at'≤f→f≤g→Fw rd en g at'=Fw rd en f at':=by
 intro f
 induction f with
 |zero=>
  intro g at' h1 h2
  rw[F9 (by omega),F9 (by omega)]
 |succ f ih=>
  intro g at' h1 h2
  obtain⟨g,rfl⟩:∃j,g=j+1:=⟨g-1,by omega⟩
  by_cases h3:at'<en
  ·by_cases h4:(rd at').code≠0
   ·rw[Kf h3 h4,Kf h3 h4]
   ·obtain⟨s,e1,e2,e3⟩:=(hr at' (by omega)).1 (Decidable.not_not.1 h4)
    rw[Iw h3 e1,Iw h3 e1,ih g _ (by omega) (by omega)]
  ·rw[F9 h3,F9 h3]
theorem lZ {rd:Nat→Nat→SR} {at' en:Nat} (h:¬at'<en):Db rd at' en=⟨[],0,0⟩:=F9 h
theorem mA {rd:Nat→Nat→SR} {at' en:Nat} (h:at'<en) (h1:(rd at' en).code≠0):Db rd at' en=⟨[],(rd at' en).code,(rd at' en).off⟩:=by
 obtain⟨f,hf⟩:∃f,en-at'=f+1:=⟨en-at'-1,by omega⟩
 rw[Db,hf]
 exact Kf (rd:=fun p=>rd p en) h h1
theorem dK {rd:Nat→Nat→SR} {at' en:Nat} {s:S} (hr:Rds (fun p=>rd p en) en) (h:at'<en) (h1:rd at' en=⟨[s],0,0⟩) (h2:at'<s.stop):Db rd at' en=R5 s (Db rd s.stop en):=by
 obtain⟨f,hf⟩:∃f,en-at'=f+1:=⟨en-at'-1,by omega⟩
 have e:Fw (fun p=>rd p en) en f s.stop=Db rd s.stop en:=dJ hr _ _ _ (Nat.le_refl _) (by omega)
 rw[Db,hf,Iw (rd:=fun p=>rd p en) h h1,e]
theorem rP {rd:Nat→SR} {en:Nat} (hr:Rds rd en):∀(f at':Nat),((Fw rd en f at').code=0→Fw rd en f at'=⟨(Fw rd en f at').l,0,0⟩)∧(Fw rd en f at').off≤en:=by
 intro f
 induction f with
 |zero=>intro at';exact⟨fun _=>rfl,Nat.zero_le _⟩
 |succ f ih=>
  intro at'
  by_cases h3:at'<en
  ·by_cases h4:(rd at').code≠0
   ·rw[Kf h3 h4]
    exact⟨fun h=>absurd h h4,((hr at' (by omega)).2 h4).1⟩
   ·obtain⟨s,e1,e2,e3⟩:=(hr at' (by omega)).1 (Decidable.not_not.1 h4)
    rw[Iw h3 e1]
    by_cases h5:(Fw rd en f s.stop).code=0
    ·rw[Nk h5]
     exact⟨fun _=>rfl,Nat.zero_le _⟩
    ·rw[K9 h5]
     exact⟨fun h=>absurd h h5,(ih s.stop).2⟩
  ·rw[F9 h3]
   exact⟨fun _=>rfl,Nat.zero_le _⟩
theorem Fh (b:List UInt8):∀(d en:Nat),en≤b.length→Rds (fun p=>Bg b d p en) en:=by
 intro d
 induction d with
 |zero=>
  intro en hen p hp
  exact⟨fun h=>by simp[Bg,SR.bad] at h,fun _=>⟨by simp[Bg,SR.bad];exact hp,rfl⟩⟩
 |succ d ih=>
  intro en hen p hp
  have hB:=D2 ((b.drop p).take (en-p))
  have hlen:((b.drop p).take (en-p)).length=en-p:=by simp;omega
  rw[hlen] at hB
  show((Bg b (d+1) p en).code=0→_)∧_
  simp only[Bg]
  generalize rhS ((b.drop p).take (en-p))=h at hB⊢
  obtain⟨c1,c2,c3,c4,c5,c6,c7⟩:=hB
  unfold Ix
  by_cases k1:h.code≠0
  ·rw[if_pos k1]
   exact⟨fun h'=>absurd h' k1,fun _=>⟨by simp only[SR.bad];omega,rfl⟩⟩
  rw[if_neg k1]
  by_cases k2:en-p<h.size+h.len
  ·rw[if_pos k2]
   exact⟨fun h'=>by simp[SR.bad] at h',fun _=>⟨by simp[SR.bad],rfl⟩⟩
  rw[if_neg k2]
  have c1':=c1 (Decidable.not_not.1 k1)
  by_cases k3:h.k=false
  ·rw[if_pos k3]
   exact⟨fun _=>⟨_,rfl,by simp only[S.stop];omega,by simp only[S.stop];omega⟩,fun h'=>by simp at h'⟩
  rw[if_neg k3]
  have hR:=ih (p+h.size+h.len) (by omega)
  have hK:=rP hR (p+h.size+h.len-(p+h.size)) (p+h.size)
  by_cases k4:(Db (Bg b d) (p+h.size) (p+h.size+h.len)).code≠0
  ·rw[if_pos k4]
   have h9:(Db (Bg b d) (p+h.size) (p+h.size+h.len)).off≤p+h.size+h.len:=hK.2
   exact⟨fun h'=>absurd h' k4,fun _=>⟨by simp only[SR.bad];omega,rfl⟩⟩
  ·rw[if_neg k4]
   exact⟨fun _=>⟨_,rfl,by simp only[S.stop];omega,by simp only[S.stop];omega⟩,fun h'=>by simp at h'⟩
def Zd:AV:= .agg [iv 0,iv 0,iv 0,iv 0,bv false,Bj,Bj,Bj]
def zI (x:S):AV:= .agg ((gK true x).map AV.d)
def trA (r:SR):AV:=match r with
 |⟨x::_,0,_⟩=> .tup [zI x,erA 0 0]
 |r=> .tup [Zd,erA r.code r.off]
theorem dL (x:S):trA ⟨[x],0,0⟩= .tup [zI x,erA 0 0]:=rfl
theorem Nl {r:SR} (h:r.code≠0):trA r= .tup [Zd,erA r.code r.off]:=by
 obtain⟨l,c,o⟩:=r
 cases c with
 |zero=>exact absurd rfl h
 |succ c=>cases l<;>rfl
theorem L8 (c o:Int):Ac Tryz.prog 235 [iv c,iv o] (fun r=>r= .tup [Zd,erA c o]):=by
 refine acQ 10 Tryz.func235 rfl rfl fun _ _ _=> ?_
 (all_goals(conv=>whnf))
 exact zE
abbrev zJ:S→List D:=gJ true
abbrev zK:S→List D:=gK true
theorem R6 {p:Prop} (h:p:=by first|rfl|(simp only[AV.gives,AV.ren,AV.give,D.un,D.uns,Ai,Am,List.nil_append,List.append_nil,List.cons_append,At,E4,E5];first|done|rfl)):p:=h
theorem mB (b:List UInt8) (hb:b.length≤1000000000) (d at' en cc nn ll sz off:Nat) (hd:d<1000) (h1:at'≤en) (h2:en≤b.length) (hsz:2≤sz) (h3:sz+ll≤en-at')
 (hR:Ac Tryz.prog 169 [.d (Af false ((b.drop at').take (en-at')))] (fun r=>r= .tup [.agg [iv cc,iv nn,bv true,iv ll,iv sz],erA 0 off]))
 (ih:∀(p q:Nat),p≤q→q≤b.length→Ac Tryz.prog 214 [.d (Af false b),iv p,iv q,iv d] (fun r=>r=trA (Bg b d p q))):
 Ac Tryz.prog 214 [.d (Af false b),iv at',iv en,iv (d+1:Nat)] (fun r=>r=trA (Ix b (Db (Bg b d)) at' en ⟨cc,nn,true,ll,sz,0,off⟩)):=by
 have hRd:=Fh b d (at'+sz+ll) (by omega)
 have hF:(Db (Bg b d) (at'+sz) (at'+sz+ll)).code≠0→Ix b (Db (Bg b d)) at' en ⟨cc,nn,true,ll,sz,0,off⟩= .bad (Db (Bg b d) (at'+sz) (at'+sz+ll)).code (Db (Bg b d) (at'+sz) (at'+sz+ll)).off:=fun h=>by
  unfold Ix
  rw[if_neg (fun x=>x rfl),if_neg (show¬en-at'<sz+ll by omega),if_neg (fun x=>by cases x),if_pos h]
 have hO:(Db (Bg b d) (at'+sz) (at'+sz+ll)).code=0→Ix b (Db (Bg b d)) at' en ⟨cc,nn,true,ll,sz,0,off⟩=⟨[.mk at' (at'+sz+ll) cc nn true [] (Db (Bg b d) (at'+sz) (at'+sz+ll)).l],0,0⟩:=fun h=>by
  unfold Ix
  rw[if_neg (fun x=>x rfl),if_neg (show¬en-at'<sz+ll by omega),if_neg (fun x=>by cases x),if_neg (fun x=>x h)]
 generalize hK:Db (Bg b d) (at'+sz) (at'+sz+ll)=K0 at hF hO
 refine acQ 125 Tryz.func214 rfl rfl fun _ _ _=> ?_
 (repeat'((conv=>whnf);first|refine Ae ?_|refine Aa hR R6 ?_|refine NSl.slice (at') (en) ?_|(with_reducible refine NInt.i64 ?_)|(refine Ah (fun hc hcP=> ?_) (fun hc hcP=> ?_)<;>try(exfalso;omega))));(all_goals(conv=>whnf))
 refine Bt [.b 14 6 1000 5 80,.b 14 7 1001 8 222] (fun z:Nat×List S=>z.1≤at'+sz+ll∧z.2.length≤z.1∧(Db (Bg b d) z.1 (at'+sz+ll)).code=K0.code∧(K0.code≠0→(Db (Bg b d) z.1 (at'+sz+ll)).off=K0.off)∧(K0.code=0→K0.l=z.2++(Db (Bg b d) z.1 (at'+sz+ll)).l)) (fun z=>at'+sz+ll-z.1)
  (fun z=>⟨[(0,.d (Af false b)),(3,iv (d+1:Nat)),(8,.ptr 8 0),(9,.ptr 9 0),(13,iv z.1),(14,.ptr 14 0)],[(8,[iv 0,iv 0,iv 0,iv 0,bv false,Bj,Bj,Bj]),(9,[iv 0,iv 0]),(14,[iv at',iv (at'+sz+ll:Nat),iv cc,iv nn,bv true,Bj,C7 1000 5 80 zJ z.2,C7 1001 8 222 zK z.2])],[(1000,(z.2.length,5,80)),(1001,(z.2.length,8,222))]⟩) (at'+sz,[]) ⟨by simp only[];omega,by simp,by rw[hK],fun _=>by rw[hK],fun _=>by rw[hK];rfl⟩ leQ ?_
 ·rintro⟨p,acc⟩ ⟨hp,hacc,e1,e2,e3⟩
  simp only[] at hp hacc e1 e2 e3
  by_cases h5:p<at'+sz+ll
  ·have hrec:=ih p (at'+sz+ll) (by omega) (by omega)
   by_cases h6:(Bg b d p (at'+sz+ll)).code≠0
   ·rw[mA h5 h6] at e1 e2
    have h7:K0.code≠0:=by rw[←e1];exact h6
    rw[Nl h6,show(Bg b d p (at'+sz+ll)).code=K0.code from e1,show(Bg b d p (at'+sz+ll)).off=K0.off from e2 h7] at hrec
    rw[hF h7,Nl (show(SR.bad K0.code K0.off).code≠0 from h7)]
    (repeat'((conv=>whnf);first|refine Aa hrec R6 ?_|refine NInt.as (((d:Nat):Int)) ((by rw[IntWalk.i64_in _ (by omega)];omega)) ?_|refine zF ?_|(refine Ah (fun hc hcP=> ?_) (fun hc hcP=> ?_)<;>try(exfalso;omega))|(refine Ce (fun hc hcP=> ?_) (fun hc hcP=> ?_)<;>try(exfalso;omega))|exact zE))
   ·obtain⟨s,r1,r2,r3⟩:=(hRd p (by omega)).1 (Decidable.not_not.1 h6)
    obtain⟨a,q,c,n,k,b',ks⟩:=s
    have r1':Bg b d p (at'+sz+ll)=⟨[S.mk a q c n k b' ks],0,0⟩:=r1
    have r2':p+2≤q:=r2
    have r3':q≤at'+sz+ll:=r3
    rw[r1',dL] at hrec
    have hrec':Ac Tryz.prog 214 [.d (Af false b),iv p,iv (at'+sz+ll:Nat),iv d] (fun r=>r= .tup [.agg [iv a,iv q,iv c,iv n,bv k,.d (Af true b'),.d (.sl true ks.length 5 (H9 true ks)),.d (.sl true ks.length 8 (Ke true ks))],erA 0 0]):=hrec
    have hst:=dK hRd h5 r1' (show p<q by omega)
    have hst':Db (Bg b d) p (at'+sz+ll)=R5 (S.mk a q c n k b' ks) (Db (Bg b d) q (at'+sz+ll)):=hst
    have e1':(Db (Bg b d) q (at'+sz+ll)).code=K0.code:=by
     rw[←e1,hst']
     by_cases h9:(Db (Bg b d) q (at'+sz+ll)).code=0
     ·rw[Nk h9];exact h9
     ·rw[K9 h9]
    have e2':K0.code≠0→(Db (Bg b d) q (at'+sz+ll)).off=K0.off:=fun h=>by
     rw[←e2 h,hst',K9 (by rw[e1'];exact h)]
    have e3':K0.code=0→K0.l=(acc++[S.mk a q c n k b' ks])++(Db (Bg b d) q (at'+sz+ll)).l:=fun h=>by
     rw[e3 h,hst',Nk (by rw[e1'];exact h)];simp
    clear hst hst' r1 r2 r3 hrec e1 e2 e3
    (repeat'((conv=>whnf);first|refine Ae ?_|refine Aa hrec' R6 ?_|refine NInt.as (((d:Nat):Int)) ((by rw[IntWalk.i64_in _ (by omega)];omega)) ?_|refine A8 zJ (S.mk a q c n k b' ks) ?_|refine A8 zK (S.mk a q c n k b' ks) ?_|(refine Ah (fun hc hcP=> ?_) (fun hc hcP=> ?_)<;>try(exfalso;omega))));(all_goals(conv=>whnf))
    refine⟨(q,acc++[S.mk a q c n k b' ks]),⟨by simp only[];omega,by simp only[Aj,Ag,List.length_nil] at*;omega,e1',e2',e3'⟩,by simp only[];omega,?_⟩
    exact leQ
  ·rw[lZ h5] at e1 e3
   have h7:K0.code=0:=e1.symm
   have h8:=e3 h7
   rw[hO h7,h8,List.append_nil]
   (repeat'((conv=>whnf);(refine Ah (fun hc hcP=> ?_) (fun hc hcP=> ?_)<;>try(exfalso;omega))));(all_goals(conv=>whnf))
   all_goals(refine Ba ?_;(repeat'(first|exact trivial|exact Cp _|refine And.intro ?_ ?_|exact rfl));(all_goals(conv=>whnf)))
   all_goals first|exact(lX true acc).symm|exact(lY true acc).symm
theorem Nm {p:Prop} (h:p:=by first|rfl|(simp only[AV.gives,AV.ren,AV.give,D.un,D.uns,Ai,Am,List.nil_append,List.append_nil,List.cons_append,At,E4,E5];first|done|rfl)):p:=h
theorem rQ (b:List UInt8) (hb:b.length≤1000000000):∀(d at' en:Nat),d≤1000→at'≤en→en≤b.length→Ac Tryz.prog 214 [.d (Af false b),iv at',iv en,iv d] (fun r=>r=trA (Bg b d at' en)):=by
 intro d
 induction d with
 |zero=>
  intro at' en hd h1 h2
  refine acQ 125 Tryz.func214 rfl rfl fun _ _ _=> ?_
  (repeat'((conv=>whnf);first|refine Ab ?_|refine Aa (L8 5 at') rfl ?_|exact zE))
 |succ d ih=>
  intro at' en hd h1 h2
  have hlen:((b.drop at').take (en-at')).length=en-at':=by simp;omega
  have hR:=M4 ((b.drop at').take (en-at')) (by omega)
  have hB:=D2 ((b.drop at').take (en-at'))
  have hRd:=Fh b d
  rw[hlen] at hB
  rw[Bg]
  generalize hh:rhS ((b.drop at').take (en-at'))=h at hR hB⊢
  obtain⟨c1,c2,c3,c4,c5,c6,c7⟩:=hB
  by_cases k1:h.code=0
  ·have c1':=c1 k1
   by_cases k2:en-at'<h.size+h.len
   ·rw[Ix,if_neg (by omega),if_pos k2]
    refine acQ 125 Tryz.func214 rfl rfl fun _ _ _=> ?_
    (repeat'((conv=>whnf);first|refine Ae ?_|refine Aa hR Nm ?_|refine NSl.slice (at') (en) ?_|refine Aa (L8 _ _) rfl ?_|(with_reducible refine NInt.i64 ?_)|(refine Ah (fun hc hcP=> ?_) (fun hc hcP=> ?_)<;>try(exfalso;omega))|(refine Ce (fun hc hcP=> ?_) (fun hc hcP=> ?_)<;>try(exfalso;omega))|exact zE))
    all_goals rfl
   ·obtain⟨cc,nn,kk,ll,sz,cd,of⟩:=h
    have k2':¬en-at'<sz+ll:=k2
    have k1':¬cd≠0:=fun x=>x k1
    have k0:cd=0:=k1
    have c1a:2≤sz:=c1'.1
    have c1b:sz≤en-at':=c1'.2.1
    have c4a:ll≤2147483647:=c4
    have hq:at'+sz+ll-(at'+sz)=ll:=by omega
    have hR':Ac Tryz.prog 169 [.d (Af false ((b.drop at').take (en-at')))] (fun r=>r= .tup [.agg [iv cc,iv nn,bv kk,iv ll,iv sz],erA cd of]):=hR
    cases kk with
    |false=>
     have hC:=K1 ((b.drop (at'+sz)).take (at'+sz+ll-(at'+sz))) (by rw[Al];omega)
     have e:Ix b (Db (Bg b d)) at' en ⟨cc,nn,false,ll,sz,cd,of⟩=⟨[.mk at' (at'+sz+ll) cc nn false ((b.drop (at'+sz)).take (at'+sz+ll-(at'+sz))) []],0,0⟩:=by
      rw[hq];unfold Ix
      rw[if_neg k1',if_neg k2',if_pos rfl]
     rw[e]
     refine acQ 125 Tryz.func214 rfl rfl fun _ _ _=> ?_
     (repeat'((conv=>whnf);first|refine Ab ?_|refine Ae ?_|refine Aa hR' Nm ?_|refine NSl.slice (at') (en) ?_|refine NSl.slice (at'+sz) (at'+sz+ll) ?_|refine Aa hC Nm ?_|(with_reducible refine NInt.i64 ?_)|(refine Ah (fun hc hcP=> ?_) (fun hc hcP=> ?_)<;>try(exfalso;omega))|(refine Ce (fun hc hcP=> ?_) (fun hc hcP=> ?_)<;>try(exfalso;omega))|exact zE))
     all_goals rfl
    |true=>
     subst k0
     exact mB b hb d at' en cc nn ll sz of (by omega) h1 h2 c1a (by omega) hR' (fun p q hp hq'=>ih p q (by omega) hp hq')
  ·have e:Ix b (Db (Bg b d)) at' en h= .bad h.code (at'+h.off):=by rw[Ix,if_pos k1]
   rw[e,Nl k1]
   refine acQ 125 Tryz.func214 rfl rfl fun _ _ _=> ?_
   (repeat'((conv=>whnf);first|refine Ae ?_|refine Aa hR Nm ?_|refine NSl.slice (at') (en) ?_|refine Aa (L8 _ _) rfl ?_|(with_reducible refine NInt.i64 ?_)|(refine Ce (fun hc hcP=> ?_) (fun hc hcP=> ?_)<;>try(exfalso;omega))|exact zE))
   all_goals rfl
def Wb (n:Nat):SR→SR
 |⟨s::_,0,_⟩=>if s.stop<n then .bad 2 s.stop else⟨[s],0,0⟩
 |r=> .bad r.code r.off
def D0 (b:List UInt8):SR:=Wb b.length (Bg b 16 0 b.length)
theorem Gl {n:Nat} {s:S} (h:s.stop<n):Wb n ⟨[s],0,0⟩= .bad 2 s.stop:=if_pos h
theorem Iy {n:Nat} {s:S} (h:¬s.stop<n):Wb n ⟨[s],0,0⟩=⟨[s],0,0⟩:=if_neg h
theorem Hb {n c o:Nat}:Wb n ⟨[],c,o⟩= .bad c o:=by cases c<;>rfl
theorem Kg {p:Prop} (h:p:=by first|rfl|(simp only[AV.gives,AV.ren,AV.give,D.un,D.uns,Ai,Am,List.nil_append,List.append_nil,List.cons_append,At,E4,E5];first|done|rfl)):p:=h
theorem mC (b:List UInt8) (hb:b.length≤1000000000):Ac Tryz.prog 174 [.d (Af false b)] (fun r=>r=trA (D0 b)):=by
 have hR:=rQ b hb 16 0 b.length (by omega) (by omega) (by omega)
 have hF:=Fh b 16 b.length (by omega) 0 (by omega)
 dsimp only at hF
 unfold D0
 generalize Bg b 16 0 b.length=r at hR hF
 by_cases h:r.code=0
 ·obtain⟨s,rfl,h1,h2⟩:=hF.1 h
  obtain⟨a,q,c,n,k,b',ks⟩:=s
  simp only[S.stop] at h1 h2
  rw[dL] at hR
  have hR':Ac Tryz.prog 214 [.d (Af false b),iv 0,iv b.length,iv 16] (fun r=>r= .tup [.agg [iv a,iv q,iv c,iv n,bv k,.d (Af true b'),.d (.sl true ks.length 5 (H9 true ks)),.d (.sl true ks.length 8 (Ke true ks))],erA 0 0]):=hR
  by_cases h3:q<b.length
  ·rw[Gl (show(S.mk a q c n k b' ks).stop<b.length from h3)]
   refine acQ 29 Tryz.func174 rfl rfl fun _ _ _=> ?_
   (repeat'((conv=>whnf);first|refine Ab ?_|refine Aa hR' Kg ?_|refine zF ?_|(refine Ah (fun hc hcP=> ?_) (fun hc hcP=> ?_)<;>try(exfalso;omega))|exact zE))
  ·rw[Iy (show¬(S.mk a q c n k b' ks).stop<b.length from h3)]
   refine acQ 29 Tryz.func174 rfl rfl fun _ _ _=> ?_
   (repeat'((conv=>whnf);first|refine Ab ?_|refine Aa hR' Kg ?_|refine zF ?_|(refine Ah (fun hc hcP=> ?_) (fun hc hcP=> ?_)<;>try(exfalso;omega))|exact zE))
 ·rw[Nl h] at hR
  obtain⟨l,c,o⟩:=r
  have hl:l=[]:=(hF.2 h).2
  subst hl
  have h':¬c=0:=h
  have hR':Ac Tryz.prog 214 [.d (Af false b),iv 0,iv b.length,iv 16] (fun r=>r= .tup [Zd,erA c o]):=hR
  rw[Hb]
  refine acQ 29 Tryz.func174 rfl rfl fun _ _ _=> ?_
  (repeat'((conv=>whnf);first|refine Ae ?_|refine Aa hR' Kg ?_|refine zF ?_|(refine Ah (fun hc hcP=> ?_) (fun hc hcP=> ?_)<;>try(exfalso;omega))|exact zE))
theorem mD (b:List UInt8) (hb:b.length≤1000000000):Ac Tryz.prog 125 [.d (Af false b)] (fun r=>r= .tup [.agg ((match D0 b with
 |⟨s::_,0,_⟩=>gJ true s
 |_=>[.v (.int .i64 0),.v (.int .i64 0),.v (.bool false),.v (.slice none 0 0),.v (.slice none 0 0)]).map AV.d),erA (D0 b).code (D0 b).off]):=by
 have hR:=mC b hb
 have hF:=Fh b 16 b.length (by omega) 0 (by omega)
 dsimp only at hF
 have hW:((D0 b).code=0→∃s,D0 b=⟨[s],0,0⟩)∧((D0 b).code≠0→(D0 b).l=[]):=by
  unfold D0
  generalize Bg b 16 0 b.length=r at hF
  by_cases h:r.code=0
  ·obtain⟨s,rfl,h1,h2⟩:=hF.1 h
   by_cases h3:s.stop<b.length
   ·rw[Gl h3];simp[SR.bad]
   ·rw[Iy h3];simp
  ·obtain⟨l,c,o⟩:=r
   have hl:l=[]:=(hF.2 h).2
   subst hl
   have h':¬c=0:=h
   rw[Hb];simp[SR.bad,h']
 generalize D0 b=r at hR hW⊢
 by_cases h:r.code=0
 ·obtain⟨s,rfl⟩:=hW.1 h
  obtain⟨a,q,c,n,k,b',ks⟩:=s
  rw[dL] at hR
  have hR':Ac Tryz.prog 174 [.d (Af false b)] (fun r=>r= .tup [.agg [iv a,iv q,iv c,iv n,bv k,.d (Af true b'),.d (.sl true ks.length 5 (H9 true ks)),.d (.sl true ks.length 8 (Ke true ks))],erA 0 0]):=hR
  refine acQ 14 Tryz.func125 rfl rfl fun _ _ _=> ?_
  (repeat'((conv=>whnf);first|refine Aa hR' Kg ?_|refine zF ?_|exact zE))
 ·rw[Nl h] at hR
  obtain⟨l,c,o⟩:=r
  have hl:l=[]:=hW.2 h
  subst hl
  have h':¬c=0:=h
  have hR':Ac Tryz.prog 174 [.d (Af false b)] (fun r=>r= .tup [Zd,erA c o]):=hR
  refine acQ 14 Tryz.func125 rfl rfl fun _ _ _=> ?_
  (repeat'((conv=>whnf);first|refine Aa hR' Kg ?_|refine zF ?_|exact zE))
inductive Tr where
 |mk (c n:Nat) (k:Bool) (b:List UInt8) (ks:List Tr)
mutual
def Tr.cells (t:Bool):Tr→List D
 | .mk c n k b ks=>[.v (.int .i64 c),.v (.int .i64 n),.v (.bool k),Af t b,.sl t ks.length 5 (Tr.cellss t ks)]
def Tr.cellss (t:Bool):List Tr→List D
 |[]=>[]
 |s::r=>s.cells t++Tr.cellss t r
end
theorem Tr.cellss_eq (t:Bool) (l:List Tr):Tr.cellss t l=l.flatMap (Tr.cells t):=by
 induction l with
 |nil=>rw[Tr.cellss];rfl
 |cons s r ih=>rw[Tr.cellss,ih,List.flatMap_cons]
theorem Tr.cells_un (t:Bool):∀s:Tr,D.uns (s.cells t)=s.cells false
 | .mk c n k b ks=>by
   have h:∀l:List Tr,(∀s,s∈l→D.uns (s.cells t)=s.cells false)→D.uns (Tr.cellss t l)=Tr.cellss false l:=by
    intro l
    induction l with
    |nil=>intro _;rw[Tr.cellss,Tr.cellss];rfl
    |cons s r ih=>
     intro hs
     rw[Tr.cellss,Tr.cellss,D.uns_eq,List.map_append,←D.uns_eq,←D.uns_eq,hs s (by simp),ih fun x hx=>hs x (by simp[hx])]
   have hk:=h ks fun s hs=>Tr.cells_un t s
   rw[Tr.cells,Tr.cells]
   simp only[D.uns,D.un,Ai,hk]
termination_by s=>SizeOf.sizeOf s
decreasing_by
 have:=List.sizeOf_lt_of_mem hs
 simp only[Tr.mk.sizeOf_spec];omega
theorem Tr.cellss_un (t:Bool) (l:List Tr):D.uns (Tr.cellss t l)=Tr.cellss false l:=by
 induction l with
 |nil=>rw[Tr.cellss,Tr.cellss];rfl
 |cons s r ih=>rw[Tr.cellss,Tr.cellss,D.uns_eq,List.map_append,←D.uns_eq,←D.uns_eq,Tr.cells_un,ih]
structure TR where
 l:List Tr
 size:Nat
 code:Nat
 off:Nat
def TR.bad (code off:Nat):TR:=⟨[],0,code,off⟩
def T8 (sz:Nat) (x:Tr) (r:TR):TR:=if r.code=0 then⟨x::r.l,0,0,0⟩ else .bad r.code (sz+r.off)
theorem Kh {sz:Nat} {x:Tr} {r:TR} (h:r.code=0):T8 sz x r=⟨x::r.l,0,0,0⟩:=if_pos h
theorem G2 {sz:Nat} {x:Tr} {r:TR} (h:r.code≠0):T8 sz x r= .bad r.code (sz+r.off):=if_neg h
def kT (rd:List UInt8→TR):Nat→List UInt8→TR
 |0,_=>⟨[],0,0,0⟩
 |f+1,l=>if l.length=0 then⟨[],0,0,0⟩ else match rd l with
  |⟨t::_,sz,0,_⟩=>T8 sz t (kT rd f (l.drop sz))
  |r=> .bad r.code r.off
def Bq (rd:List UInt8→TR) (l:List UInt8):TR:=kT rd l.length l
theorem Ol {rd:List UInt8→TR} {f:Nat} {l:List UInt8} (h:l.length=0):kT rd f l=⟨[],0,0,0⟩:=by
 cases f with
 |zero=>rfl
 |succ f=>rw[kT,if_pos h]
theorem Wc {rd:List UInt8→TR} {f:Nat} {l:List UInt8} {t:Tr} {sz:Nat} (h:l.length≠0) (h1:rd l=⟨[t],sz,0,0⟩):kT rd (f+1) l=T8 sz t (kT rd f (l.drop sz)):=by
 rw[kT,if_neg h,h1];rfl
theorem gL {rd:List UInt8→TR} {f:Nat} {l:List UInt8} (h:l.length≠0) (h1:(rd l).code≠0):kT rd (f+1) l= .bad (rd l).code (rd l).off:=by
 rw[kT,if_neg h]
 generalize rd l=r at*
 obtain⟨l,s,c,o⟩:=r
 cases c with
 |zero=>exact absurd rfl h1
 |succ c=>cases l<;>rfl
def RdT (rd:List UInt8→TR):Prop:=∀l,((rd l).code=0→∃t sz,rd l=⟨[t],sz,0,0⟩∧2≤sz∧sz≤l.length)∧((rd l).code≠0→(rd l).off≤l.length∧(rd l).l=[]∧(rd l).size=0∧(rd l).code≤9)
theorem wV {rd:List UInt8→TR} (hr:RdT rd):∀(f g:Nat) (l:List UInt8),l.length≤f→f≤g→kT rd g l=kT rd f l:=by
 intro f
 induction f with
 |zero=>intro g l h1 h2;rw[Ol (by omega),Ol (by omega)]
 |succ f ih=>
  intro g l h1 h2
  obtain⟨g,rfl⟩:∃j,g=j+1:=⟨g-1,by omega⟩
  by_cases h3:l.length=0
  ·rw[Ol h3,Ol h3]
  ·by_cases h4:(rd l).code=0
   ·obtain⟨t,sz,e1,e2,e3⟩:=(hr l).1 h4
    rw[Wc h3 e1,Wc h3 e1,ih g _ (by rw[Aw];omega) (by omega)]
   ·rw[gL h3 h4,gL h3 h4]
theorem En {rd:List UInt8→TR} {l:List UInt8} (h:l.length=0):Bq rd l=⟨[],0,0,0⟩:=Ol h
theorem La {rd:List UInt8→TR} {l:List UInt8} (h:l.length≠0) (h1:(rd l).code≠0):Bq rd l= .bad (rd l).code (rd l).off:=by
 obtain⟨f,hf⟩:∃f,l.length=f+1:=⟨l.length-1,by omega⟩
 rw[Bq,hf];exact gL h h1
theorem Hc {rd:List UInt8→TR} (hr:RdT rd) {l:List UInt8} {t:Tr} {sz:Nat} (h:l.length≠0) (h1:rd l=⟨[t],sz,0,0⟩):Bq rd l=T8 sz t (Bq rd (l.drop sz)):=by
 obtain⟨f,hf⟩:∃f,l.length=f+1:=⟨l.length-1,by omega⟩
 have h2:(rd l).code=0:=by rw[h1]
 obtain⟨t',sz',e1,e2,e3⟩:=(hr l).1 h2
 have hs:sz'=sz:=by rw[h1] at e1;cases e1;rfl
 subst hs
 rw[Bq,hf,Wc h h1,Bq,wV hr (l.drop sz').length f _ (Nat.le_refl _) (by rw[Aw];omega)]
theorem Ze {rd:List UInt8→TR} (hr:RdT rd):∀(f:Nat) (l:List UInt8),l.length≤f→((Bq rd l).code=0→Bq rd l=⟨(Bq rd l).l,0,0,0⟩)∧((Bq rd l).code≠0→(Bq rd l).off≤l.length∧(Bq rd l).code≤9):=by
 intro f
 induction f with
 |zero=>intro l h;rw[En (by omega)];exact⟨fun _=>rfl,fun h=>absurd rfl h⟩
 |succ f ih=>
  intro l h
  by_cases h3:l.length=0
  ·rw[En h3];exact⟨fun _=>rfl,fun h=>absurd rfl h⟩
  ·by_cases h4:(rd l).code=0
   ·obtain⟨t,sz,e1,e2,e3⟩:=(hr l).1 h4
    have ih':=ih (l.drop sz) (by rw[Aw];omega)
    rw[Hc hr h3 e1]
    by_cases h5:(Bq rd (l.drop sz)).code=0
    ·rw[Kh h5];exact⟨fun _=>rfl,fun h=>absurd rfl h⟩
    ·rw[G2 h5]
     have:=ih'.2 h5
     rw[Aw] at this
     exact⟨fun h=>absurd h h5,fun _=>⟨by simp only[TR.bad];omega,this.2⟩⟩
   ·rw[La h3 h4]
    exact⟨fun h=>absurd h h4,fun _=>⟨((hr l).2 h4).1,((hr l).2 h4).2.2.2⟩⟩
def rTH (rd:List UInt8→TR) (l:List UInt8) (h:Hd):TR:=
 if h.code≠0 then .bad h.code h.off
 else if l.length<h.size+h.len then .bad 1 l.length
 else if h.k=false then⟨[.mk h.c h.n false ((l.drop h.size).take h.len) []],h.size+h.len,0,0⟩
 else if(Bq rd ((l.drop h.size).take h.len)).code≠0 then .bad (Bq rd ((l.drop h.size).take h.len)).code (h.size+(Bq rd ((l.drop h.size).take h.len)).off)
 else⟨[.mk h.c h.n true [] (Bq rd ((l.drop h.size).take h.len)).l],h.size+h.len,0,0⟩
def rT:Nat→List UInt8→TR
 |0,_=> .bad 5 0
 |d+1,l=>rTH (rT d) l (rhS l)
theorem Pf:∀d,RdT (rT d):=by
 intro d
 induction d with
 |zero=>intro l;exact⟨fun h=>by simp[rT,TR.bad] at h,fun _=>by simp[rT,TR.bad]⟩
 |succ d ih=>
  intro l
  have hB:=D2 l
  simp only[rT]
  generalize rhS l=h at hB⊢
  obtain⟨c1,c2,c3,c4,c5,c6,c7⟩:=hB
  unfold rTH
  by_cases k1:h.code≠0
  ·rw[if_pos k1]
   exact⟨fun h'=>absurd h' k1,fun _=>⟨by simp only[TR.bad];omega,rfl,rfl,by simp only[TR.bad];omega⟩⟩
  rw[if_neg k1]
  have c1':=c1 (Decidable.not_not.1 k1)
  by_cases k2:l.length<h.size+h.len
  ·rw[if_pos k2]
   exact⟨fun h'=>by simp[TR.bad] at h',fun _=>by simp[TR.bad]⟩
  rw[if_neg k2]
  by_cases k3:h.k=false
  ·rw[if_pos k3]
   exact⟨fun _=>⟨_,_,rfl,by omega,by omega⟩,fun h'=>by simp at h'⟩
  rw[if_neg k3]
  have hK:=Ze ih _ ((l.drop h.size).take h.len) (Nat.le_refl _)
  have hl:((l.drop h.size).take h.len).length=h.len:=by rw[Al,Aw];omega
  rw[hl] at hK
  by_cases k4:(Bq (rT d) ((l.drop h.size).take h.len)).code≠0
  ·rw[if_pos k4]
   have:=hK.2 k4
   exact⟨fun h'=>absurd h' k4,fun _=>⟨by simp only[TR.bad];omega,rfl,rfl,this.2⟩⟩
  ·rw[if_neg k4]
   exact⟨fun _=>⟨_,_,rfl,by omega,by omega⟩,fun h'=>by simp at h'⟩
def ndZ:AV:= .agg [iv 0,iv 0,bv false,Bj,Bj]
def trN (t:Tr):AV:= .agg ((t.cells true).map AV.d)
def rtA (r:TR):AV:=match r with
 |⟨t::_,sz,0,_⟩=> .tup [trN t,iv sz,erA 0 0]
 |r=> .tup [ndZ,iv 0,erA r.code r.off]
theorem dM (t:Tr) (sz:Nat):rtA ⟨[t],sz,0,0⟩= .tup [trN t,iv sz,erA 0 0]:=rfl
theorem P4 {r:TR} (h:r.code≠0):rtA r= .tup [ndZ,iv 0,erA r.code r.off]:=by
 obtain⟨l,s,c,o⟩:=r
 cases c with
 |zero=>exact absurd rfl h
 |succ c=>cases l<;>rfl
abbrev trC:Tr→List D:=Tr.cells true
theorem T9 {p:Prop} (h:p:=by first|rfl|(simp only[AV.gives,AV.ren,AV.give,D.un,D.uns,Ai,Am,List.nil_append,List.append_nil,List.cons_append,At,E4,E5];first|done|rfl)):p:=h
theorem dN (l:List UInt8) (hb:l.length≤1000000000) (d cc nn ll sz off:Nat) (hd:d<1000) (hsz:2≤sz) (h3:sz+ll≤l.length)
 (hN:Ac Tryz.prog 152 [.d (Af false l)] (fun r=>r= .tup [.agg [iv cc,iv nn,bv true,iv ll,iv sz],.d (Af false ((l.drop sz).take ll)),.d (Af false (l.drop (sz+ll))),erA 0 0]))
 (ih:∀m:List UInt8,m.length≤1000000000→Ac Tryz.prog 110 [.d (Af false m),iv d] (fun r=>r=rtA (rT d m))):
 Ac Tryz.prog 110 [.d (Af false l),iv (d+1:Nat)] (fun r=>r=rtA (rTH (rT d) l ⟨cc,nn,true,ll,sz,0,off⟩)):=by
 have hRd:=Pf d
 have hF:(Bq (rT d) ((l.drop sz).take ll)).code≠0→rTH (rT d) l ⟨cc,nn,true,ll,sz,0,off⟩= .bad (Bq (rT d) ((l.drop sz).take ll)).code (sz+(Bq (rT d) ((l.drop sz).take ll)).off):=fun h=>by
  unfold rTH
  rw[if_neg (fun x=>x rfl),if_neg (show¬l.length<sz+ll by omega),if_neg (fun x=>by cases x),if_pos h]
 have hO:(Bq (rT d) ((l.drop sz).take ll)).code=0→rTH (rT d) l ⟨cc,nn,true,ll,sz,0,off⟩=⟨[.mk cc nn true [] (Bq (rT d) ((l.drop sz).take ll)).l],sz+ll,0,0⟩:=fun h=>by
  unfold rTH
  rw[if_neg (fun x=>x rfl),if_neg (show¬l.length<sz+ll by omega),if_neg (fun x=>by cases x),if_neg (fun x=>x h)]
 have hcl:((l.drop sz).take ll).length=ll:=by rw[Al,Aw];omega
 generalize (l.drop sz).take ll=m at hF hO hN hcl
 generalize hK:Bq (rT d) m=K0 at hF hO
 refine acQ 97 Tryz.func110 rfl rfl fun _ _ _=> ?_
 (repeat'((conv=>whnf);first|refine Ae ?_|refine Aa hN T9 ?_));(all_goals(conv=>whnf))
 refine Bt [.b 11 4 1000 5 80] (fun z:Nat×List Tr=>z.1≤ll∧z.2.length≤z.1∧(Bq (rT d) (m.drop z.1)).code=K0.code∧(K0.code≠0→z.1+(Bq (rT d) (m.drop z.1)).off=K0.off)∧(K0.code=0→K0.l=z.2++(Bq (rT d) (m.drop z.1)).l)) (fun z=>ll-z.1)
  (fun z=>⟨[(1,iv (d+1:Nat)),(4,.ptr 4 0),(6,.ptr 6 0),(7,.ptr 7 0),(8,.d (Af false m)),(11,.ptr 11 0),(12,iv z.1)],[(4,[iv 0,iv 0,bv false,Bj,Bj]),(6,[iv 0,iv 0]),(7,[iv cc,iv nn,bv true,iv ll,iv sz]),(11,[iv cc,iv nn,bv true,Bj,C7 1000 5 80 trC z.2])],[(1000,(z.2.length,5,80))]⟩) (0,[]) ⟨by simp,by simp,by rw[List.drop_zero,hK],fun _=>by rw[List.drop_zero,hK,Nat.zero_add],fun _=>by rw[List.drop_zero,hK];rfl⟩ leQ ?_
 ·rintro⟨p,acc⟩ ⟨hp,hacc,e1,e2,e3⟩
  simp only[] at hp hacc e1 e2 e3
  have hdl:(m.drop p).length=ll-p:=by rw[Aw,hcl]
  by_cases h5:p<ll
  ·have hne:(m.drop p).length≠0:=by omega
   have hrec:=ih (m.drop p) (by omega)
   by_cases h6:(rT d (m.drop p)).code≠0
   ·rw[La hne h6] at e1 e2
    have h7:K0.code≠0:=by rw[←e1];exact h6
    have e1':(rT d (m.drop p)).code=K0.code:=e1
    have e2':p+(rT d (m.drop p)).off=K0.off:=e2 h7
    rw[P4 h6] at hrec
    have hof:=((hRd (m.drop p)).2 h6).1
    generalize rT d (m.drop p)=R at hrec e1' e2' h6 hof
    have hne0:¬((R.code:Nat):Int)=0:=by omega
    have hrec':Ac Tryz.prog 110 [.d (Af false (m.drop p)),iv d] (fun r=>r= .tup [.agg [iv 0,iv 0,bv false,Bj,Bj],iv 0,.agg [iv R.code,iv R.off]]):=hrec
    rw[hF h7,P4 (show(TR.bad K0.code (sz+K0.off)).code≠0 from h7)]
    (repeat'((conv=>whnf);first|refine Aa hrec' T9 ?_|refine NInt.as (((d:Nat):Int)) ((by rw[IntWalk.i64_in _ (by omega)];omega)) ?_|refine Gh (p) ?_|(with_reducible refine NInt.i64 ?_)|refine zF ?_|(refine Ah (fun hc hcP=> ?_) (fun hc hcP=> ?_)<;>try(exfalso;omega))|(refine Ce (fun hc hcP=> ?_) (fun hc hcP=> ?_)<;>try(exfalso;omega))));(all_goals(conv=>whnf))
    all_goals(refine Ba ?_;(repeat'(first|exact trivial|exact Cp _|refine And.intro ?_ ?_|exact rfl));(all_goals(conv=>whnf)))
    all_goals simp only[TR.bad]
    all_goals omega
   ·obtain⟨t,q,r1,r2,r3⟩:=(hRd (m.drop p)).1 (Decidable.not_not.1 h6)
    obtain⟨c,n,k,b',ks⟩:=t
    rw[r1,dM] at hrec
    have hrec':Ac Tryz.prog 110 [.d (Af false (m.drop p)),iv d] (fun r=>r= .tup [.agg [iv c,iv n,bv k,.d (Af true b'),.d (.sl true ks.length 5 (Tr.cellss true ks))],iv q,erA 0 0]):=hrec
    have hst:=Hc hRd hne r1
    rw[List.drop_drop] at hst
    have e1':(Bq (rT d) (m.drop (p+q))).code=K0.code:=by
     rw[←e1,hst]
     by_cases h9:(Bq (rT d) (m.drop (p+q))).code=0
     ·rw[Kh h9];exact h9
     ·rw[G2 h9];rfl
    have e2':K0.code≠0→p+q+(Bq (rT d) (m.drop (p+q))).off=K0.off:=fun h=>by
     rw[←e2 h,hst,G2 (by rw[e1'];exact h)];simp only[TR.bad];omega
    have e3':K0.code=0→K0.l=(acc++[Tr.mk c n k b' ks])++(Bq (rT d) (m.drop (p+q))).l:=fun h=>by
     rw[e3 h,hst,Kh (by rw[e1'];exact h)];simp
    clear hst r1 hrec e1 e2 e3
    rw[hdl] at r3
    (repeat'((conv=>whnf);first|refine Ae ?_|refine Aa hrec' T9 ?_|refine NInt.as (((d:Nat):Int)) ((by rw[IntWalk.i64_in _ (by omega)];omega)) ?_|refine Gh (p) ?_|refine A8 trC (Tr.mk c n k b' ks) ?_|(with_reducible refine NInt.i64 ?_)|(refine Ah (fun hc hcP=> ?_) (fun hc hcP=> ?_)<;>try(exfalso;omega))));(all_goals(conv=>whnf))
    refine⟨(p+q,acc++[Tr.mk c n k b' ks]),⟨by simp only[];omega,by simp only[Aj,Ag,List.length_nil] at*;omega,e1',e2',e3'⟩,by simp only[];omega,?_⟩
    exact leQ
  ·have h50:(m.drop p).length=0:=by omega
   rw[En h50] at e1 e3
   have h7:K0.code=0:=e1.symm
   have h8:=e3 h7
   rw[hO h7,h8,List.append_nil,dM]
   (repeat'((conv=>whnf);first|(with_reducible refine NInt.i64 ?_)|refine zF ?_|(refine Ah (fun hc hcP=> ?_) (fun hc hcP=> ?_)<;>try(exfalso;omega))));(all_goals(conv=>whnf))
   all_goals(refine Ba ?_;(repeat'(first|exact trivial|exact Cp _|refine And.intro ?_ ?_|exact rfl));(all_goals(conv=>whnf)))
   all_goals exact(Tr.cellss_eq true acc).symm
theorem mE:∀(d:Nat) (l:List UInt8),d≤1000→l.length≤1000000000→Ac Tryz.prog 110 [.d (Af false l),iv d] (fun r=>r=rtA (rT d l)):=by
 intro d
 induction d with
 |zero=>
  intro l hd hb
  refine acQ 97 Tryz.func110 rfl rfl fun _ _ _=> ?_
  (repeat'((conv=>whnf);refine Ab ?_));(all_goals(conv=>whnf))
  all_goals exact zE
 |succ d ih=>
  intro l hd hb
  have hN:=lC l hb
  have hB:=D2 l
  rw[rT]
  unfold cR at hN
  generalize rhS l=h at hN hB⊢
  obtain⟨c1,c2,c3,c4,c5,c6,c7⟩:=hB
  obtain⟨cc,nn,kk,ll,sz,cd,of⟩:=h
  by_cases k1:cd=0
  ·subst k1
   have c1':=c1 rfl
   rw[if_neg (fun x=>x rfl)] at hN
   by_cases k2:l.length<sz+ll
   ·rw[if_pos k2] at hN
    rw[rTH,if_neg (fun x=>x rfl),if_pos k2]
    refine acQ 97 Tryz.func110 rfl rfl fun _ _ _=> ?_
    (repeat'((conv=>whnf);first|refine Ab ?_|refine Ae ?_|refine Aa hN T9 ?_|refine zF ?_|exact zE))
   ·rw[if_neg k2] at hN
    simp only[] at c1'
    cases kk with
    |false=>
     have e:rTH (rT d) l ⟨cc,nn,false,ll,sz,0,of⟩=⟨[.mk cc nn false ((l.drop sz).take ll) []],sz+ll,0,0⟩:=by
      unfold rTH
      rw[if_neg (fun x=>x rfl),if_neg k2,if_pos rfl]
     have hlm:((l.drop sz).take ll).length≤1000000000:=by rw[Al];omega
     have c4':ll≤2147483647:=c4
     rw[e,dM]
     have hN':Ac Tryz.prog 152 [.d (Af false l)] (fun r=>r= .tup [.agg [iv cc,iv nn,bv false,iv ll,iv sz],.d (Af false ((l.drop sz).take ll)),.d (Af false (l.drop (sz+ll))),erA 0 0]):=hN
     generalize (l.drop sz).take ll=m at hN' hlm⊢
     refine acQ 97 Tryz.func110 rfl rfl fun _ _ _=> ?_
     (repeat'((conv=>whnf);first|refine Ab ?_|refine Ae ?_|refine Aa hN' T9 ?_|refine M0 ([]) ?_|(with_reducible refine NInt.i64 ?_)|refine zF ?_|exact zE))
    |true=>exact dN l hb d cc nn ll sz of (by omega) c1'.1 (by omega) hN (fun m hm=>ih m (by omega) hm)
  ·rw[if_pos k1] at hN
   have k1':¬((cd:Nat):Int)=0:=by omega
   rw[rTH,if_pos k1,P4 (show(TR.bad cd of).code≠0 from k1)]
   have hN':Ac Tryz.prog 152 [.d (Af false l)] (fun r=>r= .tup [hdA (.bad 0 0),Bj,Bj,.agg [iv cd,iv of]]):=hN
   refine acQ 97 Tryz.func110 rfl rfl fun _ _ _=> ?_
   (repeat'((conv=>whnf);first|refine Ae ?_|refine Aa hN' T9 ?_|refine zF ?_|(refine Ce (fun hc hcP=> ?_) (fun hc hcP=> ?_)<;>try(exfalso;omega))|exact zE))
def We (n:Nat):TR→TR
 |⟨t::_,sz,0,_⟩=>if sz<n then .bad 2 sz else⟨[t],sz,0,0⟩
 |r=> .bad r.code r.off
theorem Ki {n sz:Nat} {t:Tr} (h:sz<n):We n ⟨[t],sz,0,0⟩= .bad 2 sz:=if_pos h
theorem Om {n sz:Nat} {t:Tr} (h:¬sz<n):We n ⟨[t],sz,0,0⟩=⟨[t],sz,0,0⟩:=if_neg h
theorem L9 {n c o s:Nat}:We n ⟨[],s,c,o⟩= .bad c o:=by cases c<;>rfl
def D5 (d:Nat) (b:List UInt8):TR:=We b.length (rT d b)
theorem S9 (d:Nat) (b:List UInt8):((D5 d b).code=0→∃t,D5 d b=⟨[t],b.length,0,0⟩∧rT d b=⟨[t],b.length,0,0⟩)∧((D5 d b).code≠0→(D5 d b).l=[]∧(D5 d b).size=0∧(D5 d b).off≤b.length):=by
 have hF:=Pf d b
 unfold D5
 generalize rT d b=r at hF⊢
 by_cases h:r.code=0
 ·obtain⟨t,sz,rfl,h1,h2⟩:=hF.1 h
  by_cases h3:sz<b.length
  ·rw[Ki h3];exact⟨fun h=>by simp[TR.bad] at h,fun _=>⟨rfl,rfl,h2⟩⟩
  ·have:sz=b.length:=by omega
   subst this
   rw[Om h3];exact⟨fun _=>⟨t,rfl,rfl⟩,fun h=>absurd rfl h⟩
 ·obtain⟨l,s,c,o⟩:=r
  obtain⟨h1,h2,h3,h4⟩:=hF.2 h
  have h2:l=[]:=h2
  subst h2
  have h':¬c=0:=h
  rw[L9]
  exact⟨fun h=>absurd h h',fun _=>⟨rfl,rfl,h1⟩⟩
def Tr.zero:Tr:= .mk 0 0 false [] []
def TR.tree (r:TR):Tr:=r.l.headD .zero
def wtA (r:TR):AV:= .tup [trN r.tree,erA r.code r.off]
theorem Zf {p:Prop} (h:p:=by first|rfl|(simp only[AV.gives,AV.ren,AV.give,D.un,D.uns,Ai,Am,List.nil_append,List.append_nil,List.cons_append,At,E4,E5,Tr.cellss_un];first|done|rfl)):p:=h
theorem dO (d:Nat) (b:List UInt8) (hd:d≤1000) (hb:b.length≤1000000000):Ac Tryz.prog 78 [.d (Af false b),iv d] (fun r=>r=wtA (D5 d b)):=by
 have hR:=mE d b hd hb
 have hF:=Pf d b
 unfold D5
 generalize rT d b=r at hR hF⊢
 by_cases h:r.code=0
 ·obtain⟨t,sz,rfl,h1,h2⟩:=hF.1 h
  obtain⟨c,n,k,b',ks⟩:=t
  have hR':Ac Tryz.prog 110 [.d (Af false b),iv d] (fun r=>r= .tup [.agg [iv c,iv n,bv k,.d (Af true b'),.d (.sl true ks.length 5 (Tr.cellss true ks))],iv sz,erA 0 0]):=hR
  by_cases h3:sz<b.length
  ·rw[Ki h3]
   refine acQ 30 Tryz.func78 rfl rfl fun _ _ _=> ?_
   (repeat'((conv=>whnf);first|refine Ab ?_|refine Aa hR' Zf ?_|(refine Ah (fun hc hcP=> ?_) (fun hc hcP=> ?_)<;>try(exfalso;omega))|exact zE))
  ·rw[Om h3]
   refine acQ 30 Tryz.func78 rfl rfl fun _ _ _=> ?_
   (repeat'((conv=>whnf);first|refine Ab ?_|refine Aa hR' Zf ?_|refine zF ?_|(refine Ah (fun hc hcP=> ?_) (fun hc hcP=> ?_)<;>try(exfalso;omega))|exact zE))
 ·obtain⟨l,s,c,o⟩:=r
  obtain⟨h1,h2,h3,h4⟩:=hF.2 h
  have h2:l=[]:=h2
  subst h2
  have h':¬c=0:=h
  have hR':Ac Tryz.prog 110 [.d (Af false b),iv d] (fun r=>r= .tup [ndZ,iv 0,erA c o]):=by rw[P4 h] at hR;exact hR
  rw[L9]
  refine acQ 30 Tryz.func78 rfl rfl fun _ _ _=> ?_
  (repeat'((conv=>whnf);first|refine Ae ?_|refine Aa hR' Zf ?_|refine zF ?_|(refine Ah (fun hc hcP=> ?_) (fun hc hcP=> ?_)<;>try(exfalso;omega))|exact zE))
theorem rR {t:Tr} {c n:Nat} {k:Bool} {b:List UInt8} {ks:List Tr} (h:t= .mk c n k b ks):trN t= .agg [iv c,iv n,bv k,.d (Af true b),.d (.sl true ks.length 5 (Tr.cellss true ks))]:=by subst h;rfl
theorem dP (b:List UInt8) (hb:b.length≤1000000000):Ac Tryz.prog 196 [.d (Af false b)] (fun r=>r=wtA (D5 16 b)):=by
 have hR:=dO 16 b (by omega) hb
 unfold wtA at hR⊢
 generalize hw:D5 16 b=r at hR⊢
 generalize ht:r.tree=t at hR⊢
 obtain⟨c,n,k,b',ks⟩:=t
 rw[rR rfl] at hR⊢
 refine acQ 8 Tryz.func196 rfl rfl fun _ _ _=> ?_
 (repeat'((conv=>whnf);refine Aa hR Zf ?_));(all_goals(conv=>whnf))
 all_goals exact zE
def Zg (b:List UInt8):Bool:=(D5 16 b).code==0
theorem mF (b:List UInt8) (hb:b.length≤1000000000):Ac Tryz.prog 143 [.d (Af false b)] (fun r=>r=bv (Zg b)):=by
 have hR:=dP b hb
 unfold wtA at hR
 unfold Zg
 generalize hw:D5 16 b=r at hR⊢
 generalize ht:r.tree=t at hR⊢
 obtain⟨c,n,k,b',ks⟩:=t
 rw[rR rfl] at hR
 refine acQ 13 Tryz.func143 rfl rfl fun _ _ _=> ?_
 (repeat'((conv=>whnf);refine Aa hR Zf ?_));(all_goals(conv=>whnf))
 all_goals(refine Ba ?_;(repeat'(first|refine And.intro ?_ ?_|exact rfl));(all_goals(conv=>whnf)))
 all_goals exact Gi r.code 0
mutual
def Tr.enc:Tr→List UInt8
 | .mk c n k b ks=>M5 (UInt8.ofNat (idN c k n)) (b++Tr.encs ks)
def Tr.encs:List Tr→List UInt8
 |[]=>[]
 |s::r=>s.enc++Tr.encs r
end
mutual
def Tr.ok:Tr→Prop
 | .mk c n _ _ ks=>c≤3∧n≤30∧Tr.oks ks
def Tr.oks:List Tr→Prop
 |[]=>True
 |s::r=>s.ok∧Tr.oks r
end
theorem Nn (x:UInt8) (c:List UInt8):(M5 x c).length=1+(Et c.length).length+c.length:=by
 unfold M5;simp;omega
theorem Tr.enc_pos (t:Tr):1≤t.enc.length:=by cases t;rw[Tr.enc,Nn];omega
theorem Gm (s:List UInt8):(Cd s).length≤5*(s.length+1):=by
 unfold Cd
 cases h:D9 s with
 |none=>simp
 |some a=>
  obtain⟨k1,k2,k3⟩:=F8 h
  have hal:=R4 h
  obtain⟨x,y,r,rfl,x2,xy,y2⟩:=Fg k1
  have hxy:40*x+y≤4294967295:=by
   by_cases hx:x<2
   ·have:=xy hx;omega
   ·omega
  have h1:=Iv true 4 (40*x+y) (by omega)
  have h2:=Jd r (fun n hn=>k2 n (by simp[hn]))
  simp only[Ag] at hal
  simp only[Yw,Aj];omega
def dQ (s:List UInt8):List UInt8:=Ao 0 6 false (Cd s)
theorem rS {p:Prop} (h:p:=by first|rfl|(simp only[AV.gives,AV.ren,AV.give,D.un,D.uns,Ai,Am,List.nil_append,List.append_nil,List.cons_append,At,E4,E5,Tr.cellss_un];first|done|rfl)):p:=h
theorem dR (s:List UInt8) (hs:s.length≤3500000):Ac Tryz.prog 164 [sx s] (fun r=>r= .d (Af true (dQ s))):=by
 have hE:=Zc s hs
 have hl:=Gm s
 have hP:Ac Tryz.prog 115 [cv 6,.d (Af false (Cd s))] (fun r=>r=Cg 0 5 (dQ s)):=Rc 6 (Cd s) (by omega)
 refine acQ 12 Tryz.func164 rfl rfl fun _ _ _=> ?_
 (repeat'((conv=>whnf);first|refine Aa hE rfl ?_|refine Aa hP rS ?_|exact zE))
def Tr.v:Tr→List UInt8
 | .mk _ _ _ b _=>b
def Tr.ks:Tr→List Tr
 | .mk _ _ _ _ ks=>ks
def Tr.n:Tr→Nat
 | .mk _ n _ _ _=>n
def Tr.kid (t:Tr) (i:Nat):Tr:=t.ks.getD i .zero
theorem rU (n:Nat):beV (H4 n)=n:=by
 induction n using Nat.strongRecOn with
 |_ n ih=>
  by_cases h:n<256
  ·rw[Cs h];simp[beV];omega
  ·rw[Gz h,M3,ih (n/256) (by omega),UInt8.toNat_ofNat'];omega
theorem wW (n:Nat) (hn:n≤2147483647) (rest:List UInt8):rlS (Et n++rest)=(n,(Et n).length,0,0):=by
 have hL:=Ha 3 n (by omega)
 by_cases h:n<128
 ·rw[Et,if_pos h,Cs (by omega),List.singleton_append,Ky (by rw[UInt8.toNat_ofNat'];omega),UInt8.toNat_ofNat',Nat.mod_eq_of_lt (by omega)]
  rfl
 ·obtain⟨y,s,e,hy⟩:=Oe 3 n (by omega) (by omega)
  have hb:beV (y::s)=n:=by rw[←e,rU]
  rw[e] at hL
  rw[Ag] at hL
  have hk:(UInt8.ofNat (128+(y::s).length)).toNat=s.length+1+128:=by rw[UInt8.toNat_ofNat',Ag];omega
  have ht:(y::(s++rest)).take (s.length+1)=y::s:=by simp
  rw[Et,if_neg h,e,List.cons_append,List.cons_append,Vh hk (by omega) (by omega) (by simp) (by rw[ht,hb];omega),ht,hb]
  rfl
theorem wX {l:List UInt8} (h:(rlS l).2.2.1=0):l.take (rlS l).2.1=Et (rlS l).1:=by
 cases l with
 |nil=>simp[rlS] at h
 |cons x r=>
  have hx:=x.toNat_lt
  by_cases h1:x.toNat<128
  ·rw[Ky h1]
   show(x::r).take 1=Et x.toNat
   rw[Et,if_pos h1,Cs (by omega),Jb];rfl
  by_cases h2:x.toNat=128∨x.toNat>132
  ·rw[Ra (by omega) h2] at h;cases h
  by_cases h3:r.length<x.toNat-128
  ·rw[Od (by omega) (by omega) h3] at h;cases h
  cases r with
  |nil=>simp at h3;omega
  |cons y s=>
   rw[Ag] at h3
   obtain⟨k,hk⟩:∃k,x.toNat=k+128:=⟨x.toNat-128,by omega⟩
   by_cases h4:y.toNat=0∨beV ((y::s).take k)<128∨beV ((y::s).take k)>2147483647
   ·rw[P0 hk (by omega) (by omega) (by omega) h4] at h;cases h
   ·rw[Vh hk (by omega) (by omega) (by omega) h4]
    obtain⟨j,rfl⟩:∃j,k=j+1:=⟨k-1,by omega⟩
    rw[List.take_succ_cons] at h4⊢
    show(x::y::s).take (j+1+1)=Et (beV (y::s.take j))
    rw[List.take_succ_cons,List.take_succ_cons,Et,if_neg (by omega),(Yj y (by omega) j _ (by rw[Al];omega)).1,Ag,Al,show 128+(min j s.length+1)=x.toNat by omega,Jb]
theorem BO (c n:Nat) (k:Bool):idN c k n=c*64+n+(if k then 32 else 0):=by unfold idN;cases k<;>simp<;>omega
theorem Ua {c n:Nat} (k:Bool) (hc:c≤3) (hn:n≤30):(UInt8.ofNat (idN c k n)).toNat=c*64+n+(if k then 32 else 0):=by
 have:=qM k hc hn
 rw[UInt8.toNat_ofNat',Nat.mod_eq_of_lt (by omega),BO]
theorem wY {c n:Nat} {k:Bool} (l rest:List UInt8) (hc:c≤3) (hn:n≤30) (hl:l.length≤2147483647):rhS (Ao c n k l++rest)=⟨c,n,k,l.length,(Et l.length).length+1,0,0⟩:=by
 have hx:=Ua k hc hn
 unfold Ao M5
 generalize UInt8.ofNat (idN c k n)=x at hx
 rw[List.cons_append,List.append_assoc,rhS,wW _ hl]
 cases k
 ·simp only[Bool.false_eq_true,ite_false,Nat.add_zero] at hx
  rw[if_neg (by omega),if_pos rfl,show x.toNat/64=c by omega,show x.toNat%32=n by omega,show(x.toNat/32%2==1)=false by rw[beq_eq_false_iff_ne];omega]
 ·simp only[ite_true] at hx
  rw[if_neg (by omega),if_pos rfl,show x.toNat/64=c by omega,show x.toNat%32=n by omega,show(x.toNat/32%2==1)=true by rw[beq_iff_eq];omega]
theorem wZ {l:List UInt8} (h:(rhS l).code=0) (hle:(rhS l).size+(rhS l).len≤l.length):l.take ((rhS l).size+(rhS l).len)=Ao (rhS l).c (rhS l).n (rhS l).k ((l.drop (rhS l).size).take (rhS l).len):=by
 cases l with
 |nil=>simp[rhS,Hd.bad] at h
 |cons x r=>
  have hx:=x.toNat_lt
  rw[rhS] at h hle⊢
  by_cases h1:x.toNat%32=31
  ·rw[if_pos h1] at h;simp[Hd.bad] at h
  rw[if_neg h1] at h hle⊢
  by_cases h2:(rlS r).2.2.1=0
  ·rw[if_pos h2] at h hle⊢
   have hi:=wX h2
   simp only[Ag] at hle⊢
   rw[show(rlS r).2.1+1+(rlS r).1=(rlS r).2.1+(rlS r).1+1 by omega,List.take_succ_cons,List.drop_succ_cons]
   have hlen:((r.drop (rlS r).2.1).take (rlS r).1).length=(rlS r).1:=by rw[Al,Aw];omega
   unfold Ao M5
   rw[hlen,←hi,←List.take_add]
   congr 1
   apply UInt8.toNat_inj.1
   rw[Ua _ (by omega) (by omega)]
   by_cases hb:x.toNat/32%2=1
   ·rw[show(x.toNat/32%2==1)=true from beq_iff_eq.2 hb,if_pos rfl];omega
   ·rw[show(x.toNat/32%2==1)=false from beq_eq_false_iff_ne.2 hb,if_neg (by simp)];omega
  ·rw[if_neg h2] at h;exact absurd h h2
structure Tv where
 c:Nat
 n:Nat
 k:Bool
 v:List UInt8
 deriving DecidableEq
def Tv.enc (t:Tv):List UInt8:=Ao t.c t.n t.k t.v
structure Tv.ok (t:Tv):Prop where
 c:t.c≤3
 n:t.n≤30
 v:t.v.length≤2147483647
def Tv.hd (t:Tv):Nat:=(Et t.v.length).length+1
theorem Tv.len (t:Tv):t.enc.length=t.hd+t.v.length:=by
 unfold Tv.enc Tv.hd Ao M5
 rw[Ag,Aj];omega
theorem Tv.body (t:Tv):t.enc.drop t.hd=t.v:=by
 unfold Tv.enc Tv.hd Ao M5
 rw[List.drop_succ_cons,List.drop_left]
theorem Tv.hd_pos (t:Tv) (h:t.ok):2≤t.hd:=by have:=Iq _ h.v;unfold Tv.hd;omega
theorem Tv.rh {t:Tv} (h:t.ok) (rest:List UInt8):rhS (t.enc++rest)=⟨t.c,t.n,t.k,t.v.length,t.hd,0,0⟩:=wY t.v rest h.c h.n h.v
theorem Tv.inj {t u:Tv} (ht:t.ok) (hu:u.ok) {r s:List UInt8} (h:t.enc++r=u.enc++s):t=u∧r=s:=by
 have h1:=Tv.rh ht r
 have h2:=Tv.rh hu s
 rw[h] at h1
 rw[h1] at h2
 injection h2 with e1 e2 e3 e4 e5
 have hb:t.enc=u.enc:=by
  have:=congrArg (List.take t.enc.length) h
  rw[List.take_left,show t.enc.length=u.enc.length by rw[Tv.len,Tv.len];omega,List.take_left] at this
  exact this
 have hv:t.v=u.v:=by rw[←t.body,←u.body,hb,show t.hd=u.hd from e5]
 obtain⟨a,b,c,d⟩:=t
 obtain⟨a',b',c',d'⟩:=u
 simp only at e1 e2 e3 hv
 subst e1 e2 e3 hv
 exact⟨rfl,List.append_cancel_left h⟩
def Tv.el (at':Nat) (t:Tv):El:=⟨t.c,t.n,t.k,at',at'+t.hd,at'+t.enc.length⟩
theorem gM {b pre rest:List UInt8} {t:Tv} {en:Nat} (ht:t.ok) (hb:b.take en=pre++(t.enc++rest)) (hen:en≤b.length):nxS b pre.length en=⟨t.el pre.length,0,0⟩:=by
 have hd:(b.drop pre.length).take (en-pre.length)=t.enc++rest:=by
  rw[←List.drop_take,hb,List.drop_left]
 have hl:en=pre.length+(t.enc++rest).length:=by
  have:=congrArg List.length hb
  rw[Al,Aj] at this;omega
 rw[Aj] at hl
 have hr:=Tv.rh ht rest
 rw[←hd] at hr
 rw[qC hr rfl (by have:=t.len;show t.hd+t.v.length≤_;omega)]
 simp only[Tv.el,Tv.len,Nat.add_assoc]
theorem He {t:Tv} (ht:t.ok):Bb t.enc=⟨t.el 0,0,0⟩:=by
 have h:=gM (b:=t.enc) (pre:=[]) (rest:=[]) (en:=t.enc.length) ht (by simp) (Nat.le_refl _)
 rw[List.length_nil] at h
 unfold Bb
 rw[h,if_neg]
 rintro⟨-,h2⟩
 simp only[Tv.el] at h2
 omega
def Dg (ts:List Tv):List UInt8:=ts.flatMap Tv.enc
def els:Nat→List Tv→List El
 |_,[]=>[]
 |at',t::r=>t.el at'::els (at'+t.enc.length) r
theorem D1 (t:Tv) (r:List Tv):Dg (t::r)=t.enc++Dg r:=List.flatMap_cons
theorem enc_pos {t:Tv} (h:t.ok):2≤t.enc.length:=by have:=t.hd_pos h;rw[Tv.len];omega
theorem Lb:∀(ts:List Tv) (b pre:List UInt8) (en:Nat),(∀t∈ts,t.ok)→b.take en=pre++Dg ts→en≤b.length→Ct b pre.length en=⟨els pre.length ts,0,0⟩
 |[],b,pre,en,_,hb,hen=>by
  have:=congrArg List.length hb
  rw[Al,Aj] at this
  rw[Tx (by show¬pre.length<en;simp[Dg] at this;omega)];rfl
 |t::r,b,pre,en,ht,hb,hen=>by
  have h0:=ht t (by simp)
  rw[D1] at hb
  have hx:=gM h0 hb hen
  have hl:=congrArg List.length hb
  rw[Al,Aj,Aj] at hl
  have hp:=enc_pos h0
  have ih:=Lb r b (pre++t.enc) en (fun u hu=>ht u (by simp[hu])) (by rw[hb,List.append_assoc]) hen
  rw[Aj] at ih
  have hst:(nxS b pre.length en).x.stop=pre.length+t.enc.length:=by rw[hx];rfl
  rw[Re hen (by omega) (by rw[hx]),hst,ih,if_neg (by simp),hx];rfl
end Go.Proofs.YtaoahmplnckhpaaGreatDoor
