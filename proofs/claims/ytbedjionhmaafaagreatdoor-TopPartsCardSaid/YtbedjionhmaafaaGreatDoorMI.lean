/- MI: the texts OidP Pre Str Oid Oid2 OidE OidL OidR OidS Tree Tree2 Tree3 Tree4 T T2 T3 Ref10 Pl, one behind the other. No condition but what each lemma says. -/
import Derived.Lib.SplitLaws
import Derived.Lib.ParseIntBCases
import Derived.Test.YtbedjionhmaafaaGreatDoorME
import Derived.Lib.ItoaMem
set_option linter.all false
set_option maxRecDepth 100000
set_option maxHeartbeats 16000000
namespace Go.Proofs.YtbedjionhmaafaaGreatDoor
open Go
variable {n:Nat} {a:List Nat}
def Lh:List UInt8→List (List UInt8)
 |[]=>[[]]
 |c::r=>if c=46 then []::Lh r else match Lh r with
  |p::ps=>(c::p)::ps
  |[]=>[[c]]
theorem To:∀s,∃p ps,Lh s=p::ps
 |[]=>⟨_,_,rfl⟩
 |c::r=>by
  obtain⟨p,ps,h⟩:=To r
  unfold Lh
  grind
open Lib in
theorem jN {c:UInt8} {r:List UInt8} (d:c≠46):index (c::r) [46]=if index r [46]== -1 then-1 else index r [46]+1:=by
 rw[index];simp[List.isPrefixOf,Ne.symm d]
open Lib in
theorem EV {c:UInt8} (g:c≠46):∀(k:Nat) (r:List UInt8) {p ps},splitK [46] 0 k r=p::ps→splitK [46] 0 k (c::r)=(c::p)::ps
 |0,r,p,ps,h=>by rw[splitK] at h⊢;cases h;rfl
 |k+1,r,p,ps,h=>by
  have d:=jN (r:=r) g
  have u:=index_ge r [46]
  rw[splitK] at h⊢
  by_cases m:index r [46]= -1
  ·grind
  ·rw[if_neg (fun e=>m (beq_iff_eq.1 e))] at h d
   rw[if_neg (by rw[beq_iff_eq];omega),d]
   cases h
   obtain⟨j,q⟩:∃j:Nat,index r [46]=j:=⟨(index r [46]).toNat,Aa⟩
   simp_all
open Lib in
theorem aX:∀s:List UInt8,splitK [46] 0 (s.count 46) s=Lh s
 |[]=>rfl
 |c::r=>by
  obtain⟨p,ps,h⟩:=To r
  have g:=aX r
  rw[Lh]
  by_cases d:c=46
  ·subst d
   rw[if_pos rfl,List.count_cons_self,splitK]
   have j:index (46::r) [46]=0:=by rw[index];simp[List.isPrefixOf]
   simp_all
  ·rw[if_neg d,h,List.count_cons_of_ne (fun e=>d e),EV d _ _ (g.trans h)]
open Lib in
theorem Yq (s:List UInt8):splitB ⟨#[46]⟩ 0 (countB ⟨⟨s⟩⟩ ⟨#[46]⟩) ⟨⟨s⟩⟩=(Lh s).map fun p=>⟨⟨p⟩⟩:=by
 have d:=splitB_data ⟨#[46]⟩ 0 (countB ⟨⟨s⟩⟩ ⟨#[46]⟩) ⟨⟨s⟩⟩
 have e:countB ⟨⟨s⟩⟩ ⟨#[46]⟩=s.count 46:=count_one 46 s
 rw[e] at d⊢
 rw[show splitK ((⟨#[46]⟩:ByteArray).data.toList) 0 (s.count 46) ((⟨⟨s⟩⟩:ByteArray).data.toList)=Lh s from aX s] at d
 rw[←d,List.map_map]
 conv=>lhs;rw[←List.map_id (splitB ⟨#[46]⟩ 0 (s.count 46) ⟨⟨s⟩⟩)]
 exact List.map_congr_left fun x _=>rfl
def Wb (l:List UInt8):Option Nat:=match Lib.parseUintB 32 l with
 | .ok u=>if Lib.decDigits u=l then some u else none
 |_=>none
theorem Wc {u:Nat} (h:u<10):(UInt8.ofNat (48+u)).toNat=48+u:=by rw[B6];omega
theorem yD:∀(n:Nat) (b:UInt8),b∈Lib.decDigits n→48≤b.toNat∧b.toNat≤57:=by
 intro n
 induction n using Nat.strongRecOn with
 |_ n ih=>
  intro b d
  rw[Lib.decDigits] at d
  by_cases h:n<10
  ·rw[D0 h,Bh] at d
   subst d;rw[Wc h];omega
  ·rw[D4 h,Cm,Bh] at d
   grind [Wc]
def Y5 (acc:Nat) (l:List UInt8):Nat:=l.foldl (fun a c=>a*10+(c.toNat-48)) acc
theorem Tp (d:Nat) (c:UInt8) (r:List UInt8):Y5 d (c::r)=Y5 (d*10+(c.toNat-48)) r:=by unfold Y5;rw[Do]
theorem nS (d:Nat):Y5 d []=d:=rfl
theorem nT (l m:List UInt8) (d:Nat):Y5 d (l++m)=Y5 (Y5 d l) m:=by unfold Y5;exact Dw
theorem nU (n:Nat):Y5 0 (Lib.decDigits n)=n:=by
 induction n using Nat.strongRecOn with
 |_ n ih=>
  rw[Lib.decDigits]
  by_cases h:n<10
  ·rw[D0 h,Tp,nS,Wc h];omega
  ·rw[D4 h,nT,ih (n/10) Aa,Tp,nS,Wc Aa];omega
theorem yE:∀(l:List UInt8) (d:Nat),d≤Y5 d l
 |[],_=>At _
 |c::r,d=>by
  have:=yE r (d*10+(c.toNat-48))
  rw[Tp];omega
open Lib in
theorem fZ:∀(l:List UInt8) (d:Nat),(∀b∈l,48≤b.toNat∧b.toNat≤57)→Y5 d l≤4294967295→parseUintM 4294967295 d l= .ok (Y5 d l)
 |[],_,_,_=>rfl
 |c::r,d,h1,h2=>by
  have e:=h1 c Ab
  have h:=yE r (d*10+(c.toNat-48))
  rw[Tp] at h2⊢
  rw[parseUintM,if_pos e,if_neg Aa,if_neg Aa]
  exact fZ r _ (fun b g=>h1 b (by simp[g])) h2
theorem dz (n:Nat):Lib.decDigits n≠[]:=by
 grind [Lib.decDigits_length,Lib.nDigits_pos]
theorem MR (h:n≤4294967295):Wb (Lib.decDigits n)=some n:=by
 have d:=fZ (Lib.decDigits n) 0 (yD n) (by rw[nU];exact h)
 rw[nU] at d
 unfold Wb Lib.parseUintB
 rw[Ai (dz n),show 2^32-1=4294967295 from rfl,d]
 simp
theorem EW {l:List UInt8} (h:Wb l=some n):n≤4294967295∧Lib.decDigits n=l:=by
 unfold Wb at h
 split at h
 ·rename_i u d
  split at h
  ·rename_i e
   cases h
   exact⟨by have:=Lib.parseUintB_le d;omega,e⟩
  ·cases h
 ·cases h
def Jj:List Nat→Bool
 |x::y::_=>decide (x≤2)&&(if x<2 then decide (y<40) else decide (y≤4294967215))
 |_=>false
def Lq (ps:List (List UInt8)):Option (List Nat):=match ps with
 |[]=>some []
 |p::r=>match Wb p,Lq r with
  |some n,some l=>some (n::l)
  |_,_=>none
def La (s:List UInt8):Option (List Nat):=match Lq (Lh s) with
 |some a=>if Jj a then some a else none
 |none=>none
def Jc:List Nat→List UInt8
 |[]=>[]
 |[n]=>Lib.decDigits n
 |n::m::r=>Lib.decDigits n++46::Jc (m::r)
theorem aY:∀(p:List UInt8),(46:UInt8)∉p→Lh p=[p]
 |[],_=>rfl
 |c::r,h=>by
  have d:c≠46:=fun e=>h (by simp[e])
  rw[Lh,Ai d,aY r (fun e=>h (by simp[e]))]
theorem Yr:∀(p q:List UInt8),(46:UInt8)∉p→Lh (p++46::q)=p::Lh q
 |[],q,_=>by rw[Ap,Lh,Aj rfl]
 |c::r,q,h=>by
  have d:c≠46:=fun e=>h (by simp[e])
  rw[Ak,Lh,Ai d,Yr r q (fun e=>h (by simp[e]))]
theorem yF (n:Nat):(46:UInt8)∉Lib.decDigits n:=fun h=>by
 have:=yD n _ h
 simp at this
theorem gA:∀(a:List Nat),a≠[]→Lh (Jc a)=a.map Lib.decDigits
 |[],h=>Bg rfl h
 |[n],_=>by rw[Jc,aY _ (yF n)];rfl
 |n::m::r,_=>by rw[Jc,Yr _ _ (yF n),gA (m::r) Ab];rfl
theorem gB:∀(a:List Nat),(∀n∈a,n≤4294967295)→Lq (a.map Lib.decDigits)=some a
 |[],_=>rfl
 |n::r,h=>by
  rw[Bc,Lq,MR (h n Ab),gB r (fun m d=>h m (by simp[d]))]
theorem Lr (h:Jj a=true):∃x y r,a=x::y::r∧x≤2∧(x<2→y<40)∧y≤4294967215:=by
 match a,h with
 |x::y::r,h=>
  rw[Jj,Et,A3] at h
  grind
theorem uG (h:Jj a=true) (d:∀n∈a,n≤4294967295):La (Jc a)=some a:=by
 obtain⟨x,y,r,rfl,-⟩:=Lr h
 rw[La,gA _ Ab,gB _ d]
 exact Aj h
theorem aZ:∀{ps:List (List UInt8)} {a:List Nat},Lq ps=some a→ps=a.map Lib.decDigits∧∀n∈a,n≤4294967295
 |[],a,h=>by rw[Lq] at h;cases h;simp
 |p::r,a,h=>by
  rw[Lq] at h
  split at h
  ·rename_i n l d e
   cases h
   obtain⟨g,k⟩:=EW d
   obtain⟨k3,j⟩:=aZ e
   grind
  ·cases h
theorem EX:∀(s:List UInt8) (a:List Nat),Lh s=a.map Lib.decDigits→Jc a=s:=by
 intro s
 have e:∀(s:List UInt8) (p:List UInt8) (ps:List (List UInt8)),Lh s=p::ps→s=p++(ps.flatMap fun q=>46::q):=by
  intro s
  induction s with
  |nil=>grind [Lh]
  |cons c r d=>
   intro p ps h
   obtain⟨q,j,g⟩:=To r
   have v:=d q j g
   rw[Lh] at h
   grind
 intro a h
 have u:∀(m:Nat) (r:List Nat),Jc (m::r)=Lib.decDigits m++((r.map Lib.decDigits).flatMap fun q=>46::q):=by
  intro m r
  induction r generalizing m with
  |nil=>rw[Jc];simp
  |cons k r d=>rw[Jc,d k];simp
 match a,h with
 |[],h=>obtain⟨q,j,g⟩:=To s;rw[g] at h;cases h
 |m::r,h=>rw[u,←e s _ _ h]
theorem Q8 {s:List UInt8} (h:La s=some a):Jj a=true∧(∀n∈a,n≤4294967295)∧Jc a=s:=by
 grind [La,aZ,EX]
def H5 (last:Bool) (n:Nat):List UInt8:=
 if h:n<128 then [UInt8.ofNat (n%128+if last then 0 else 128)] else H5 false (n/128)++[UInt8.ofNat (n%128+if last then 0 else 128)]
termination_by n
decreasing_by omega
theorem Jt (l:Bool) (h:n<128):H5 l n=[UInt8.ofNat (n%128+if l then 0 else 128)]:=by rw[H5,D0 h]
theorem Ow (l:Bool) (h:¬n<128):H5 l n=H5 false (n/128)++[UInt8.ofNat (n%128+if l then 0 else 128)]:=by rw[H5,D4 h]
def jO:List Nat→List UInt8
 |x::y::r=>H5 true (40*x+y)++r.flatMap (H5 true)
 |_=>[]
def Hc:Bool→Nat→List UInt8→Option (List Nat)
 |b,_,[]=>if b then none else some []
 |b,n,x::r=>if b=false∧x=128 then none else if n*128+x.toNat%128>4294967295 then none else if x.toNat<128 then(match Hc false 0 r with
  |some l=>some ((n*128+x.toNat%128)::l)
  |none=>none) else Hc true (n*128+x.toNat%128) r
def Li:List Nat→List Nat
 |[]=>[]
 |n::r=>min (n/40) 2::(n-40*min (n/40) 2)::r
theorem We {l:List Nat} (d:l≠[]) (g:∀n∈l,n≤4294967295):Jj (Li l)=true∧(∀n∈Li l,n≤4294967295)∧jO (Li l)=l.flatMap (H5 true):=by
 match l,d with
 |n::r,_=>
  have h:=g n Ab
  refine⟨?_,?_,?_⟩
  ·rw[Li,Jj,Et,A3]
   grind
  ·intro m e
   rw[Li,Bj,Bj] at e
   grind
  grind [Li,jO,min]
def Y6 (c:List UInt8):Option (List Nat):=match Hc false 0 c with
 |some (n::r)=>some (Li (n::r))
 |_=>none
theorem VT (l:Bool) (n:Nat):H5 l n≠[]:=by
 rw[H5];split<;>simp
theorem jv:(UInt8.ofNat (n%128+if true=true then 0 else 128)).toNat=n%128:=by
 rw[Aj rfl,B6];omega
theorem ea:(UInt8.ofNat (n%128+if false=true then 0 else 128)).toNat=n%128+128:=by
 rw[Ai Ab,B6];omega
theorem uH:∀(n:Nat) (r:List UInt8),1≤n→n≤4294967295→Hc false 0 (H5 false n++r)=Hc true n r:=by
 intro n
 induction n using Nat.strongRecOn with
 |_ n ih=>
  intro r e g
  have d:=ea (n:=n)
  by_cases h:n<128
  ·rw[Jt _ h]
   generalize UInt8.ofNat (n%128+if false=true then 0 else 128)=x at d
   rw[List.singleton_append,Hc,Ai (by rintro⟨-,rfl⟩;simp at d;omega),Ai Aa,Ai Aa]
   grind
  ·rw[Ow _ h,Bt,List.singleton_append,ih (n/128) Aa _ Aa Aa]
   generalize UInt8.ofNat (n%128+if false=true then 0 else 128)=x at d
   rw[Hc,Ai Ab,Ai Aa,Ai Aa]
   grind
theorem EY (n:Nat) (r:List UInt8) (e:n≤4294967295):Hc false 0 (H5 true n++r)=(Hc false 0 r).map (n:: ·):=by
 have d:=jv (n:=n)
 by_cases h:n<128
 ·rw[Jt _ h]
  generalize UInt8.ofNat (n%128+if true=true then 0 else 128)=x at d
  rw[List.singleton_append,Hc,Ai (by rintro⟨-,rfl⟩;simp at d;omega),Ai Aa,Aj Aa]
  grind
 ·rw[Ow _ h,Bt,List.singleton_append,uH _ _ Aa Aa]
  generalize UInt8.ofNat (n%128+if true=true then 0 else 128)=x at d
  rw[Hc,Ai Ab,Ai Aa,Aj Aa]
  grind
theorem gC:∀(l:List Nat),(∀n∈l,n≤4294967295)→Hc false 0 (l.flatMap (H5 true))=some l
 |[],_=>rfl
 |n::r,h=>by
  rw[A4,EY n _ (h n Ab),gC r (fun m d=>h m (by simp[d]))];rfl
theorem Q9:∀(c:List UInt8) (b:Bool) (n:Nat) (l:List Nat),n≤4294967295→(b=true→1≤n)→(b=false→n=0)→Hc b n c=some l→(if b then H5 false n else [])++c=l.flatMap (H5 true)∧∀m∈l,m≤4294967295
 |[],b,n,l,_,_,_,h=>by
  grind [Hc]
 |x::r,b,n,l,hn,hb,hb0,h=>by
  rw[Hc] at h
  have H:=x.toNat_lt
  by_cases j:b=false∧x=128
  ·rw[Aj j] at h;cases h
  rw[Ai j] at h
  by_cases v:n*128+x.toNat%128>4294967295
  ·rw[Aj v] at h;cases h
  rw[Ai v] at h
  have k:b=false→x.toNat≠128:=fun e y=>j ⟨e,by
   apply B8.1;simpa using y⟩
  have I:∀d:Bool,(if d then x.toNat<128 else 128≤x.toNat)→H5 d (n*128+x.toNat%128)=(if b then H5 false n else [])++[x]:=by
   intro d g
   have B:UInt8.ofNat ((n*128+x.toNat%128)%128+if d=true then 0 else 128)=x:=by
    apply B8.1
    rw[B6]
    cases d<;>simp at g⊢ <;>omega
   cases b
   ·have:=hb0 rfl
    grind [Jt]
   ·have:=hb rfl
    rw[Ow _ Aa,B,show(n*128+x.toNat%128)/128=n by omega];rfl
  by_cases u:x.toNat<128
  ·rw[Aj u] at h
   split at h
   ·rename_i F q
    cases h
    obtain⟨z,A⟩:=Q9 r false 0 F Aa Ab (fun _=>rfl) q
    grind
   ·cases h
  ·rw[Ai u] at h
   have E:1≤n*128+x.toNat%128:=by
    cases b
    ·have:=k rfl;omega
    ·have:=hb rfl;omega
   obtain⟨z,A⟩:=Q9 r true _ l Aa (fun _=>E) Ab h
   grind
theorem gD {c:List UInt8} (h:Y6 c=some a):Jj a=true∧(∀n∈a,n≤4294967295)∧jO a=c:=by
 unfold Y6 at h
 split at h
 ·rename_i n r d
  cases h
  obtain⟨e,g⟩:=Q9 c false 0 _ Aa Ab (fun _=>rfl) d
  grind [We]
 ·cases h
theorem EZ {x y:Nat} {r:List Nat} (h:Jj (x::y::r)=true):Li ((40*x+y)::r)=x::y::r:=by
 grind [Lr,Li,min]
theorem MS (h:Jj a=true) (k:∀n∈a,n≤4294967295):Y6 (jO a)=some a:=by
 obtain⟨x,y,r,rfl,d,g,e⟩:=Lr h
 have:=gC ((40*x+y)::r) (fun m j=>by
  grind)
 grind [jO,Y6,EZ]
def Gs (s:List UInt8):List UInt8:=match La s with
 |some a=>jO a
 |none=>[]
def FA (s:List UInt8):Nat:=match La s with
 |some _=>0
 |none=>8
def odT (c:List UInt8):List UInt8:=match Y6 c with
 |some a=>Jc a
 |none=>[]
def odC (c:List UInt8):Nat:=match Y6 c with
 |some _=>0
 |none=>6
def H7 (s:List UInt8):Bool:=(La s).isSome
theorem Tq (s:List UInt8):H7 s=true↔FA s=0:=by
 grind [H7,FA,La]
theorem uI {s:List UInt8} (h:H7 s=true):odT (Gs s)=s∧odC (Gs s)=0:=by
 obtain⟨a,g⟩:=Option.isSome_iff_exists.1 h
 obtain⟨d,e,k3⟩:=Q8 g
 have:=MS d e
 unfold odT odC Gs
 grind
theorem bA {c:List UInt8} (h:odC c=0):H7 (odT c)=true∧Gs (odT c)=c:=by
 unfold odC at h
 unfold odT H7 Gs
 cases d:Y6 c with
 |none=>rw[d] at h;cases h
 |some a=>
  obtain⟨e,g,k3⟩:=gD d
  simp only[uG e g]
  exact⟨rfl,k3⟩
end Go.Proofs.YtbedjionhmaafaaGreatDoor
namespace Go.Proofs.YtbedjionhmaafaaGreatDoor
open Go.RowKit
variable {C:Cx} {bm:BM} {gt:Nat→Value} {fp:Nat→Nat→Prop} {σ:AS} {w:World} {P:Program} {o:Oper} {c i n en f at' sz:Nat} {x:Operand} {α:Type} {p:Prop} {s l b:List UInt8} {a:List Nat}
def bB:Nat→Code→List Code
 |n+1,.seq x y=>x::bB n y
 |_,_=>[]
def Ys:Nat→Code→Code
 |n+1,.seq _ y=>Ys n y
 |_,c=>c
def MT:List Code→Code→Code
 |[],c=>c
 |x::r,c=> .seq x (MT r c)
theorem nV:∀(n:Nat) (c:Code),MT (bB n c) (Ys n c)=c
 |0,c=>by cases c<;>rfl
 |n+1,c=>by
  cases c with
  |seq x y=>show Code.seq x (MT (bB n y) (Ys n y))=_;rw[nV n y]
  |_=>rfl
def VU (P:Program) (C:Cx):List Code→(AS→Prop)→AS→Prop
 |[],K,σ=>K σ
 |x::r,K,σ=>G3 P C x (nx (VU P C r K) (fun _ _=>False)) σ
theorem yG {P:Program} {C:Cx} {B:Code} {Q:Exit→Act→World→Prop} {K:AS→Prop}:∀{xs:List Code} {σ:AS} {a:Act} {w:World},VU P C xs K σ→G C σ a w→(∀σ' d w',K σ'→G C σ' d w'→B.wp P Q d w')→(MT xs B).wp P Q a w
 |[],σ,a,w,h,hG,k=>k σ a w h hG
 |x::r,σ,a,w,h,hG,k=>wp_seq (wp_mono (h a w hG) fun e d w' ⟨σ',g,j⟩=>by
   cases e with
   |normal=>exact yG (xs:=r) g j k
   |_=>exact g.elim)
noncomputable def yH (P:Program) (C:Cx) (T:Tab):List Code→KS→KS
 |[],K=>K
 |x::r,K=>Ki P C T x (yH P C T r K) (fun _ _ _ _=>False) (fun _ _ _=>False)
theorem nW {P:Program} {C:Cx} {T:Tab} (g:TabOk P T) (j:P.follows .mixedOrders=true):∀{xs:List Code} {K:KS} {tm:TM} {bx:BX} {tk:TK},yH P C T xs K tm bx tk→VU P C xs (fun σ=>K σ.tm σ.bx σ.tk) ⟨tm,bx,tk⟩
 |[],K,tm,bx,tk,h=>h
 |x::r,K,tm,bx,tk,h=>I7 (Tj g j x _ _ _ _ _ _ h) fun e σ d=>by
   cases e with
   |normal=>exact nW (xs:=r) g j d
   |exit id=>exact False.elim d
   |ret=>exact False.elim d
   |goto l=>exact d.elim
   |panic c=>exact d.elim
   |_=>first|exact d.elim|exact d
theorem GG.act {σ':AS} {a d:Act} (h:GG C bm gt fp σ a w) (e:d.tmps.size=C.N) (g:d.defers=[]) (k:σ'.bx=σ.bx) (j:σ'.tk=σ.tk)
 (m:∀t u,lk t σ'.tm=some u→∃v,C.val d t=some v∧RA C.W.heap.size fp w bm gt u v):GG C bm gt fp σ' d w:=by
 obtain⟨tm,bx,tk⟩:=σ'
 simp only at k j
 subst k j
 exact{sz:=e,nN:=h.nN,gd:=h.gd,za:=h.za,zb:=h.zb,zf:=h.zf,ztk:=h.ztk,df:=g,tm:=m,bx:=h.bx,bxi:=h.bxi,tk:=h.tk,tki:=h.tki,tkb:=h.tkb,fpb:=h.fpb,fp0:=h.fp0,fpB:=h.fpB,bel:=h.bel}
def bC (all:List AV):List Nat→TM
 |[]=>[]
 |i::r=>match all[i]? with
  |some u=>(i,u)::bC all r
  |none=>bC all r
def MU (vs:List Value) (tm:TM):List Nat→Prop
 |[]=>True
 |i::r=>(∃v,vs[i]?=some v∧lk i tm=some (.d (.v v)))∧MU vs tm r
theorem bD {d:List AV} {t:Nat} {u:AV}:∀{l:List Nat},lk t (bC d l)=some u→t∈l∧d[t]?=some u
 |[],h=>by cases h
 |i::r,h=>by
  unfold bC at h
  cases j:d[i]? with
  |none=>
   rw[j] at h
   obtain⟨g,k⟩:=bD (l:=r) h
   exact⟨Be _ g,k⟩
  |some x=>
   rw[j] at h
   by_cases e:i=t
   ·subst e
    rw[F1] at h;cases h
    exact⟨Ab,j⟩
   ·rw[Gm _ _ e] at h
    obtain⟨g,k⟩:=bD (l:=r) h
    exact⟨Be _ g,k⟩
theorem gE {vs:List Value} {tm:TM} {t:Nat}:∀{l:List Nat},MU vs tm l→t∈l→∃v,vs[t]?=some v∧lk t tm=some (.d (.v v))
 |[],_,h=>by simp at h
 |i::r,hk,h=>by
  rcases Bj.1 h with rfl|h
  ·exact hk.1
  ·exact gE hk.2 h
def nX:List AV→List Value→Prop
 |[],[]=>True
 |u::us,v::vs=>(match u with
  | .d (.v x)=>v=x
  |_=>True)∧nX us vs
 |_,_=>False
theorem nY {B:Nat} {fp:Nat→Nat→Prop} {w:World} {bm:BM} {gt:Nat→Value}:∀{us:List AV} {vs:List Value},vs.length=us.length→(∀(i:Nat) u v,us[i]?=some u→vs[i]?=some v→RA B fp w bm gt u v)→nX us vs
 |[],[],_,_=>trivial
 |u::us,v::vs,hl,h=>by
  refine⟨?_,nY (by simpa using hl) fun i x y g e=>h (i+1) x y (by simpa using g) (by simpa using e)⟩
  have d:=h 0 u v rfl rfl
  split
  ·rename_i x;exact d.val
  ·trivial
 |[],_::_,hl,_=>by simp at hl
 |_::_,[],hl,_=>by simp at hl
def bE:Nat→List Value→TM
 |_,[]=>[]
 |i,v::vs=>(i,.d (.v v))::bE (i+1) vs
theorem nZ {t:Nat} {u:AV}:∀(vs:List Value) (i:Nat),lk t (bE i vs)=some u→i≤t∧∃v,vs[t-i]?=some v∧u= .d (.v v)
 |[],_,h=>by cases h
 |x::vs,i,h=>by
  simp only[bE,lk] at h
  cases d:Nat.beq i t with
  |true=>simp_all
  |false=>
   rw[d] at h
   obtain⟨e,v,j,g⟩:=nZ vs (i+1) h
   grind
def eb (vs:List Value) (keep:List Nat) (sl n sz:Nat) (e:TypeId) (ds:List D) (σ:AS):Prop:=∃κ,lk sl σ.tm=some (.own κ n sz e ds)∧lk κ σ.tk=some (n,sz,e)∧MU vs σ.tm keep
theorem VV {a:Act} (T:GG C bm gt fp σ a w) (hd:∀t,o.dst=some t→t<C.N) {f:FuncId} {g:Func} {c:Code} {us:List AV} {vs:List Value} {S:AS→Prop} (U:P.funcs[f]?=some g) (hb:g.body=some c) (hn:g.results.size≤4) (hN:us.length≤g.ntmps) (hN6:g.ntmps≤1000000) (hl:vs.length=us.length)
 (hr:∀(i:Nat) u v,us[i]?=some u→vs[i]?=some v→RA C.W.heap.size fp w bm gt u v) (k A κ n sz:Nat) (e:TypeId) (ds:List D) (H:List Nat) (hsl:A<g.ntmps) (hκ:(AS.mk (inT us σ.tm) σ.bx σ.tk).clean κ=true)
 (hA:∀vs,nX us vs→∀W fp0 z0,VU P ⟨W,fp0,g.ntmps,fun _=>none,z0⟩ (bB k c) (eb vs H A n sz e ds) ⟨bE 0 vs,[],[]⟩)
 (hB:∀gh,G3 P ⟨C.W,C.fp0,g.ntmps,gh,C.z0⟩ (Ys k c) (mV P g.results.toList o.dst S) ⟨(A,.own κ n sz e ds)::(bC us H++ghM 1000000 σ.tm),σ.bx,(κ,n,sz,e)::σ.tk⟩) {K:Act→World→Prop} {Q:Exit→Act→World→Prop} (hK:∀σ' L w',S σ'→G C σ' L w'→K L w'):
 o.upon P a K Q (.ok (.enter f vs.toArray) w):=by
 rw[Oper.upon_enter]
 have J:Calls P f vs.toArray w fun e w'=>∃v σ' u,e= .returned v∧S (σ'.ret o.dst u)∧∃bm gt fp L,GG (Cx.inn 1000000 C g.ntmps a) bm gt fp σ' L w'∧RA C.W.heap.size fp w' bm gt u v:=by
  refine calls_of_wp U hb ?_
  have hGin:=T.inn (M:=1000000) rfl (us:=us) (vs:=vs) hN6 hl hN hr
  have hG0:G ⟨w,fp,g.ntmps,fun _=>none,bm.z⟩ ⟨bE 0 vs,[],[]⟩ {tmps:=vs.toArray++Array.replicate (g.ntmps-vs.toArray.size) undef,defers:=[]} w:=by
   refine⟨⟨fun _=>0,bm.z⟩,fun _=>undef,fp,{sz:= ?_,nN:=hN6,gd:=T.gdw,za:=fun _ _ x=>x,zb:=fun _ _ x=> .inl x,zf:=T.zf,ztk:=fun k x E=>(by cases E),df:=rfl,tm:=fun t u F=> ?_,bx:=fun k cs E=>(by cases E),bxi:=fun k k' c c' E=>(by cases E),tk:=fun k n sz e E=>(by cases E),tki:=fun k k' x x' E=>(by cases E),tkb:=fun k k' x c E=>(by cases E),fpb:=fun b o U=>⟨.inl U,(T.fpb b o U).2⟩,fp0:=fun _ _ U=>U,fpB:=fun b o U=>(T.fpb b o U).2,bel:=Bq _ _}⟩
   ·show _=g.ntmps
    simp;omega
   ·obtain⟨_,v,h2,rfl⟩:=nZ vs 0 F
    rw[Nat.sub_zero] at h2
    have hlt:=(Ew.1 h2).1
    refine⟨v,?_,.d (.v v)⟩
    grind [Im,Array.getElem?_append_left]
  have hw:(MT (bB k c) (Ys k c)).wp P (bodyPost P g (fun e w'=>∃v σ' u,e= .returned v∧S (σ'.ret o.dst u)∧∃bm gt fp L,GG (Cx.inn 1000000 C g.ntmps a) bm gt fp σ' L w'∧RA C.W.heap.size fp w' bm gt u v)) {tmps:=vs.toArray++Array.replicate (g.ntmps-vs.toArray.size) undef,defers:=[]} w:=by
   refine yG (hA vs (nY hl hr) w fp bm.z) hG0 ?_
   rintro σ1 a1 w1 ⟨Z,k1,k2,k3⟩ ⟨bm1,gt1,fp1,d⟩
   obtain⟨v,hv,h⟩:=d.tm A _ k1
   have hres:aG w fp bm.z w1 (.own 0 n sz e ds) v:=by
    refine⟨rfl,fp1,fun _=>gt1 Z,bm1.z,d.fpb,?_,fun n' sz' e' ht=>by cases ht;exact⟨d.tk _ _ _ _ k2,d.ztk Z _ k2⟩,d.za,d.zf,d.zb⟩
    cases h with|own h=>exact .own (gt:=fun _=>gt1 Z) (k:=0) h
   obtain⟨bm2,gt2,fp2,R⟩:=hGin.back (t:=A) (κ:=κ) hsl hκ d.bel hres
   have hg3:GG (Cx.inn 1000000 C g.ntmps a) bm2 gt2 fp2 ⟨(A,.own κ n sz e ds)::(bC us H++ghM 1000000 σ.tm),σ.bx,(κ,n,sz,e)::σ.tk⟩ a1 w1:=by
    refine R.act d.sz d.df rfl rfl fun t u F=> ?_
    by_cases O:A=t
    ·subst O
     rw[F1] at F
     cases F
     obtain⟨v',q1,q2⟩:=R.tm A (.own κ n sz e ds) (by show lk A ((A,_)::_)=_;rw[F1];rfl)
     have e1:v'=v:=by
      rw[Im Aa] at q1
      simp only[Act.put] at q1
      have hh:A<(vs.toArray++Array.replicate (g.ntmps-vs.toArray.size) undef).size:=Af
      rw[Array.getElem?_setIfInBounds_self] at q1
      rw[Aj hh] at q1
      exact(Az q1).symm
     grind [Im]
    ·rw[Gm _ _ O] at F
     rcases aL F with F|F
     ·obtain⟨m1,m2⟩:=bD F
      have htl:=(Ew.1 m2).1
      obtain⟨x,x1,x2⟩:=gE k3 m1
      obtain⟨y,y1,y2⟩:=d.tm t _ x2
      have exy:y=x:=y2.val
      subst exy
      have V:lk t (inM 1000000 us σ.tm)=some u:=by
       have Y:∀(l:List AV) (i:Nat) (m:TM) (j:Nat),l[j]?=some u→lk (i+j) (J4 i l++m)=some u:=by
        intro l
        induction l with
        |nil=>intro i m j hj;simp at hj
        |cons q l ih=>
         intro i m j hj
         cases j with
         |zero=>simp at hj;subst hj;show lk i ((i,q)::_)=_;rw[F1]
         |succ j=>
          grind [lk,J4,Gm]
       have:=Y us 0 (ghM 1000000 σ.tm) t m2
       rwa[A0] at this
      obtain⟨z,z1,z2⟩:=R.tm t u (by show lk t ((A,_)::_)=_;rw[Gm _ _ O];exact V)
      grind [Im,Act.put,Array.getElem?_setIfInBounds_ne,Array.getElem?_append_left,Option.some.inj]
     ·obtain⟨g1,g2⟩:=tJ F
      have V:lk t (inM 1000000 us σ.tm)=some u:=by
       have Y:∀(l:List AV) (i:Nat) (m:TM),i+l.length≤t→lk t (J4 i l++m)=lk t m:=by
        intro l
        induction l with
        |nil=>intro i m _;rfl
        |cons q l ih=>
         grind [D9,lk,J4,Gm]
       show lk t (J4 0 us++ghM 1000000 σ.tm)=_
       rw[Y us 0 _ Aa];exact F
      obtain⟨z,z1,z2⟩:=R.tm t u (by show lk t ((A,_)::_)=_;rw[Gm _ _ O];exact V)
      grind [Tg,trans]
   refine wp_mono (hB _ a1 w1 ⟨bm2,gt2,fp2,hg3⟩) fun e a1 w' ⟨σ',X,bm',N,I,B⟩=> ?_
   have fin:(∃us,Oo P σ' g.results.toList us∧S (σ'.ret o.dst (single us)))→bodyPost P g (fun e w'=>∃v σ' u,e= .returned v∧S (σ'.ret o.dst u)∧∃bm gt fp L,GG (Cx.inn 1000000 C g.ntmps a) bm gt fp σ' L w'∧RA C.W.heap.size fp w' bm gt u v) .ret a1 w':=by
    rintro⟨us',h1,h2⟩
    obtain⟨v,hrun,h⟩:=Si B h1 hn
    exact⟨B.df,v,hrun,v,σ',single us',rfl,h2,bm',N,I,a1,B,h⟩
   cases e with
   |normal=>exact fin X
   |ret=>exact fin X
   |_=>exact X.elim
  rw[nV] at hw
  exact hw
 refine J.mono ?_
 rintro e w' ⟨v,σ',u,rfl,hS,bm',N,I,L,B,h⟩
 simp only[]
 have ho:=B.out (M:=1000000) rfl T.sz T.nN T.df
 refine hK _ _ _ hS ?_
 unfold AS.ret
 cases hdd:o.dst with
 |none=>exact⟨bm',N,I,ho⟩
 |some t=>exact⟨bm',N,I,ho.put (t:=t) (hd t hdd) h⟩
theorem bF {T:Tab} {tm:TM} {bx:BX} {tk:TK} {f:FuncId} {s:Nat} {y cs:List AV} {g:Func} {c:Code} {args:Array Operand} {ats:Array TypeId} {us:List AV} {K:KS} (k R κ n sz:Nat) (e:TypeId) (ds:List D) (d:List Nat) (j N:Nat) (H:Array ResultVar) (q:TabOk P T) (hm:P.follows .mixedOrders=true) (ho:o.op= .call {callee:= .value (.tmp s),args:=args,argTypes:=ats}) (V:Sn o.dst C.N=true)
 (hv:evT tm (.tmp s)=some (.cl f y cs)) (hu:evL ⟨tm,bx,tk⟩ args.toList=some us) (hf:P.funcs[f]?=some g) (hN:g.ntmps=N) (X:(g.name== "runtime.NumGoroutine")=false) (hb:g.body=some c) (hr:g.results=H) (hn:Nat.ble H.size 4=true) (I:(Nat.ble (y++us++cs).length N&&Nat.ble N 1000000&&Nat.blt R N)=true)
 (U:(AS.mk (inT (y++us++cs) tm) bx tk).clean κ=true)
 (h1:∀vs,nX (y++us++cs) vs→∀W fp0 z0,yH P ⟨W,fp0,N,fun _=>none,z0⟩ T (bB k c) (fun tm bx tk=>eb vs d R n sz e ds ⟨tm,bx,tk⟩) (bE 0 vs) [] [])
 (h2:∀J,G9 ((R,.own κ n sz e ds)::(bC (y++us++cs) d++ghM 1000000 tm)) (fun tm=>Ki P ⟨C.W,C.fp0,N,J,C.z0⟩ ⟨T.ty,T.fd,T.st,T.mu,j⟩ (Ys k c) (Ni T H o.dst K) (fun _ _ _ _=>False) (Ni T H o.dst K) tm bx ((κ,n,sz,e)::tk))):NStep P C o tm bx tk K:=by
 simp only[Et] at I
 subst hN hr
 refine⟨fun σ'=>K σ'.tm σ'.bx σ'.tk,?_,fun σ' h=>h⟩
 rintro a w ⟨bm,gt,fp,B⟩ K' Q hK
 obtain⟨hl,hr⟩:=B.evA hu
 have E:=B.eval (x:= .tmp s) (Fw hv)
 generalize Z:a.eval (.tmp s)=v at E
 cases E with
 |cl ms ns h3 h4 h6 h7=>
  have F:(execOp a.eval o).run P w= .ok (.enter f (ms++args.toList.map a.eval++ns).toArray) w:=by
   simp only[execOp,ho,resolve,Z,Deferred.ofValue,invoke,Au,Bs,A6,P2 hf X hb]
   obtain⟨l⟩:=args
   simp
  unfold Oper.wp
  rw[F]
  have z:∀{A M:List AV} {L O:List Value},L.length=A.length→O.length=M.length→(∀(i:Nat) u v,A[i]?=some u→L[i]?=some v→RA C.W.heap.size fp w bm gt u v)→(∀(i:Nat) u v,M[i]?=some u→O[i]?=some v→RA C.W.heap.size fp w bm gt u v)→∀(i:Nat) u v,(A++M)[i]?=some u→(L++O)[i]?=some v→RA C.W.heap.size fp w bm gt u v:=by
   intro A M L O e1 e2 r1 r2 i u v hu hv
   by_cases hi:i<A.length
   ·grind
   ·grind
  refine VV (us:=y++us++cs) B (fun t ht=>by unfold Sn at V;rw[ht] at V;exact ltN V) hf hb (leN hn) (leN I.1.1) (leN I.1.2) ?_ (z (by grind) h4 (z h3 hl h6 hr) h7) k R κ n sz e ds d (ltN I.2) U (fun vs Y W fp0 z0=>nW q hm (h1 vs Y W fp0 z0)) (fun J=> ?_) hK
  ·simp only[En];omega
  ·have B:=Gg (K:=fun tm=>Ki P ⟨C.W,C.fp0,g.ntmps,J,C.z0⟩ ⟨T.ty,T.fd,T.st,T.mu,j⟩ (Ys k c) (Ni T g.results o.dst K) (fun _ _ _ _=>False) (Ni T g.results o.dst K) tm bx ((κ,n,sz,e)::tk)) (h2 J)
   refine I7 (Tj (T:=⟨T.ty,T.fd,T.st,T.mu,j⟩) ⟨q.ty,q.fd,q.st⟩ hm (Ys k c) _ _ _ _ _ _ B) fun e σ m=> ?_
   cases e with
   |normal=>exact V1 q m
   |exit id=>exact False.elim m
   |ret=>exact V1 q m
   |goto l=>exact m.elim
   |panic c=>exact m.elim
   |_=>first|exact m.elim|exact m
abbrev sx (l:List UInt8):AV:= .d (.v (.string ⟨⟨l⟩⟩))
def U0 (l:List UInt8):List D:=[.v (.string ⟨⟨l⟩⟩)]
def Yt (t:Bool) (ps:List (List UInt8)):D:=J5 t 1 U0 ps
theorem Gz (t:Bool) (ps:List (List UInt8)):(Yt t ps).un=Yt false ps:=K3 (fun _=>rfl) t 1 ps
theorem oA (ps:List (List UInt8)) (i:Nat):(ps.flatMap U0)[i]?=(ps[i]?).map fun p=>D.v (.string ⟨⟨p⟩⟩):=by
 have:ps.flatMap U0=ps.map fun p=>D.v (.string ⟨⟨p⟩⟩):=by
  induction ps with
  |nil=>rfl
  |cons p r d=>rw[A4,d];rfl
 rw[this,Bk]
theorem bG (ps:List (List UInt8)):(ps.flatMap U0).length=ps.length:=by
 induction ps with
 |nil=>rfl
 |cons p r d=>grind [En,D9,U0]
theorem Wg (s:List UInt8):(Lh s).length≤s.length+1:=by
 induction s with
 |nil=>simp[Lh]
 |cons c r d=>
  rw[Lh]
  grind
theorem jP (s:List UInt8) (F:s.length≤4000000):aC 189 [.d (.v (.string ⟨⟨s⟩⟩)),.d (.v (.string ⟨#[46]⟩))] (.d (Yt true (Lh s))):=by
 refine .of Tryz.func189 Ac rfl rfl fun w fp0 bm gt vs B q=> ?_
 match vs,q with
 |[a,b],q=>
  rw[q.1.val,q.2.1.val]
  obtain⟨m,E⟩:=B.ml
  refine(Tryz.strings_Split ⟨⟨s⟩⟩ ⟨#[46]⟩ m w (by show s.length<_;omega) E Ae).mono ?_
  rintro e w' ⟨rfl,rfl⟩
  rw[Yq]
  have A:Lib.countB ⟨⟨s⟩⟩ ⟨#[46]⟩+1=(Lh s).length:=by
   have v:=Lib.splitB_all ⟨#[46]⟩ Ae 0 _ ⟨⟨s⟩⟩ rfl
   rw[Yq,Ba] at v
   exact v.symm
  rw[A]
  have j:=Wg s
  refine⟨_,rfl,(Bq _ _).alloc (At _) _,fun fp z k bm gt=> .d ?_⟩
  refine .sl ((Lh s).map fun p=> .string ⟨⟨p⟩⟩) (At _) (by unfold maxLen;omega) (by rw[bG,Dq]) (by rw[bG,Ba]) (fun h=>by cases h) (fun u g=> ?_) (fun i d u j g=> ?_) (fun i u g=> ?_)
  ·obtain⟨p,-,rfl⟩:=Cl.1 g;rfl
  ·rw[oA] at j
   rw[Bk] at g
   cases y:(Lh s)[i]? with
   |none=>rw[y] at j;cases j
   |some p=>rw[y] at j g;cases j;cases g;exact .v _
  ·refine⟨w.heap.size,0,rfl,k _ _ (At _) (by rw[Dj];omega),fun _=>At _,?_⟩
   simp_all
def jw:(Nat→Nat→Prop)→World→Value→Prop:=fun _ _ v=>∃t p,v= .iface t p
def FB:AV:= .sem jw
def jx:AV:= .d (.v .nilIface)
def puA (l:List UInt8):AV:=match Lib.parseUintB 32 l with
 | .ok u=> .tup [.d (.v (.int .u64 u)),jx]
 |Lib.NumEnd.syntax=> .tup [.d (.v (.int .u64 0)),FB]
 | .range=> .tup [.d (.v (.int .u64 4294967295)),FB]
theorem MV {B:Nat} (t:TypeId) (p:Value):RA B fp w bm gt FB (.iface t p):= .sem rfl fun _ _ _ _ _=>⟨t,p,rfl⟩
theorem uJ (l:List UInt8) (F:l.length≤4000000):aC 190 [.d (.v (.string ⟨⟨l⟩⟩)),iv 10,iv 32] (puA l):=by
 have A:(⟨⟨l⟩⟩:ByteArray).size=l.length:=rfl
 unfold puA
 have E:(∃u,Lib.parseUintB 32 l= .ok u)∨Lib.parseUintB 32 l=Lib.NumEnd.syntax∨Lib.parseUintB 32 l= .range:=by
  cases Lib.parseUintB 32 l
  ·exact .inl ⟨_,rfl⟩
  ·exact .inr (.inl rfl)
  ·exact .inr (.inr rfl)
 rcases E with⟨u,j⟩|j|j<;>rw[j]
 ·
  refine .of Tryz.func190 Ac rfl rfl fun w fp0 bm gt vs k d=> ?_
  match vs,d with
  |[a,b,c],d=>
   rw[d.1.val,d.2.1.val,d.2.2.1.val]
   refine(Tryz.strconv_ParseUint_10_at32_ok ⟨⟨l⟩⟩ (by rw[A];omega) u j w).mono ?_
   rintro e w' ⟨rfl,B⟩
   refine⟨_,rfl,?_,fun fp _ _ bm gt=> .tup [_,_] rfl fun i x v g h=> ?_⟩
   ·rcases B with rfl|rfl
    all_goals grind [Below.refl,Lib.bytesWorld_below]
   ·match i with
    |0=>simp at g h;subst g h;exact .d (.v _)
    |1=>simp at g h;subst g h;exact .d (.v _)
 ·
  refine .of Tryz.func190 Ac rfl rfl fun w fp0 bm gt vs k d=> ?_
  match vs,d with
  |[a,b,c],d=>
   rw[d.1.val,d.2.1.val,d.2.2.1.val]
   obtain⟨q,m,y⟩:=k.syn
   refine(Tryz.strconv_ParseUint_10_at32_syntax ⟨⟨l⟩⟩ (by rw[A];omega) j q w m y).mono ?_
   rintro e w' ⟨N,rfl,-,-,z⟩
   refine⟨_,rfl,z,fun fp _ _ bm gt=> .tup [_,_] rfl fun i x v g h=> ?_⟩
   match i with
   |0=>simp at g h;subst g h;exact .d (.v _)
   |1=>grind [MV]
 ·
  refine .of Tryz.func190 Ac rfl rfl fun w fp0 bm gt vs k d=> ?_
  match vs,d with
  |[a,b,c],d=>
   rw[d.1.val,d.2.1.val,d.2.2.1.val]
   obtain⟨q,m,y⟩:=k.rng
   refine(Tryz.strconv_ParseUint_10_at32_range ⟨⟨l⟩⟩ (by rw[A];omega) j q w m y).mono ?_
   rintro e w' ⟨N,rfl,-,-,z⟩
   refine⟨_,rfl,z,fun fp _ _ bm gt=> .tup [_,_] rfl fun i x v g h=> ?_⟩
   match i with
   |0=>simp at g h;subst g h;exact .d (.v _)
   |1=>grind [MV]
open Go.Sort Go.Lib in
theorem FC (u:Nat) (hu64:u<18446744073709551616) (w:World) (htab:Lib.TabIs Tryz.prog w "internal/strconv.uint64pow10" .u64 Lib.pow10Tab):
 Calls Tryz.prog 181 #[.int .u64 u,.int .i64 10] w fun e w'=>e= .returned (.string ⟨(Lib.decDigits u).toArray⟩)∧Below w.heap.size w w':=by
 by_cases hs:u<100
 ·have d1:decide ((u:Int)<100)=true:=decide_eq_true Aa
  have w1:IntKind.i64.wrap (u:Int)=(u:Int):=IntWalk.i64_in _ Aa
  have hc:=fun w=>Tryz.internal_strconv_small u hs w
  go_enter Tryz.func181,Tryz.ntmps181
  go_wp2_with (go_at_call 250;refine(hc _).mono ?_;rintro e w' ⟨rfl,rfl⟩)
  go_ret
  exact⟨rfl,Below.refl _ _⟩
 ·have d1:decide ((u:Int)<100)=false:=decide_eq_false Aa
  have hnd20:Lib.nDigits u≤20:=by have:=Lib.numDigits_eq u Aa hu64;split at this<;>omega
  have hal:Tryz.prog.arrayLen 422=24:=by simp[Program.arrayLen,Tryz.underlying422]
  have hsl1:∀W,(Instr.sliceAt 422 (.pointer (some ⟨w.heap.size,0,none⟩)) none (some (.int .i64 (Lib.nDigits u:Int))) none).run Tryz.prog W= .ok (.slice (some ⟨w.heap.size,0,none⟩) (Lib.nDigits u) 24) W:=fun W=>by
   rw[run_sliceAt_array_h W 422 ⟨w.heap.size,0,none⟩ (by simp[Program.arrayLen,Program.elem,Tryz.underlying422]) .i64 (Lib.nDigits u:Int) Aa (by rw[hal];omega)]
   rw[hal];simp[Program.elem,Tryz.underlying422,Tryz.sizeOf5,Result.andThen,slicedAt,Lib.add_plain]
  have hH0:Holds (fun(b:UInt8)=>Value.int .u8 (b.toNat:Int)) (w.alloc (.cells Lib.zeros24 422)) w.heap.size 0 (Array.replicate (Lib.nDigits u) (0:UInt8)):=fun i hi=>by
   simp only[Array.size_replicate] at hi
   refine⟨?_,World.frozen?_alloc_new _ _ _ _⟩
   rw[World.cell?_alloc_new,Nat.zero_add,Lib.zeros24_at i Aa]
   simp[hi]
  have hfmt:=Tryz.internal_strconv_formatBase10 w.heap.size 0 24 u (Array.replicate (Lib.nDigits u) 0) (w.alloc (.cells Lib.zeros24 422)) hH0 (by rw[Array.size_replicate];exact Lib.lt_pow_nDigits u) hu64 (by rw[Array.size_replicate];omega)
  rw[Array.size_replicate] at hfmt
  have HH0:=Zh hH0
  clear hH0 hal
  go_enter Tryz.func181,Tryz.ntmps181
  go_wp2_with (first
   |(go_at_call 251;refine(Tryz.internal_strconv_numDigits u Aa hu64 _ (Lib.tabIs_alloc htab _)).mono ?_;rintro e w' ⟨rfl,rfl⟩))
  go_at_call 252
  refine hfmt.mono ?_
  rintro e w' ⟨rfl,k,v',dk,rfl,hF⟩
  have hcv:(convert 22 9 (.slice (some ⟨w.heap.size,0,none⟩) (Lib.nDigits u) 24)).run Tryz.prog ((putRow (fun(b:UInt8)=>Value.int .u8 (b.toNat:Int)) (w.alloc (.cells Lib.zeros24 422)) w.heap.size 0 dk).drewN k)= .ok (.string ⟨(Lib.decDigits u).toArray⟩) ((putRow (fun(b:UInt8)=>Value.int .u8 (b.toNat:Int)) (w.alloc (.cells Lib.zeros24 422)) w.heap.size 0 dk).drewN k):=by
   have h:=run_convert_bytes_back (P:=Tryz.prog) ((putRow (fun(b:UInt8)=>Value.int .u8 (b.toNat:Int)) (w.alloc (.cells Lib.zeros24 422)) w.heap.size 0 dk).drewN k) 22 9 5 ⟨w.heap.size,0,none⟩ 24 (Lib.decDigits u) Tryz.underlying22 Tryz.underlying5 Tryz.underlying9 (fun j hj=>by
    rw[Lib.row_is_numeral hF j hj,Lib.add_plain,World.cell?_drewN]
    exact cell?_putRow (fun(b:UInt8)=>Value.int .u8 (b.toNat:Int)) _ w.heap.size 0 _ dk HH0.out (by rw[hF.size,Array.size_replicate]) j (by rw[hF.size];grind [Lib.decDigits_length]))
   rw[Lib.decDigits_length] at h
   exact h
  go_wp2
  go_ret
  refine⟨rfl,?_⟩
  refine⟨rfl,rfl,rfl,?_,fun i hi=> ?_⟩
  ·simp_all
  ·show(putRow _ _ _ _ _).heap[i]?=_
   simp only[putRow,mapBlock,Array.getElem?_modify]
   rw[if_neg Aa]
   exact Below.heap_alloc w _ i hi
theorem jy (d:Nat) (w:World):(Op.equalIn (d+1) 320 .nilIface .nilIface).run Tryz.prog w= .ok true w:=by
 simp[Op.equalIn,Au,Bf Tryz.underlying320,Result.andThen]
theorem jz (d:Nat) (t:TypeId) (p:Value) (w:World):(Op.equalIn (d+1) 320 (.iface t p) .nilIface).run Tryz.prog w= .ok false w:=by
 simp[Op.equalIn,Au,Bf Tryz.underlying320,Result.andThen]
theorem MW (x:Operand) (w:World):(do eqGuard .neq 320 x (.const .nilIface) .nilIface .nilIface;binOp .neq 320 .nilIface .nilIface:Sem Value).run Tryz.prog w= .ok (.bool false) w:=by
 have e:∀w,(Op.equal 320 .nilIface .nilIface).run Tryz.prog w= .ok true w:=fun w=>jy 9999 w
 simp[eqGuard,Result.andThen,binOp,e]
theorem MX (x:Operand) (t:TypeId) (p:Value) (w:World):(do eqGuard .neq 320 x (.const .nilIface) (.iface t p) .nilIface;binOp .neq 320 (.iface t p) .nilIface:Sem Value).run Tryz.prog w= .ok (.bool true) w:=by
 have e:∀w,(Op.equal 320 (.iface t p) .nilIface).run Tryz.prog w= .ok false w:=fun w=>jz 9999 t p w
 simp[eqGuard,Result.andThen,binOp,e]
section
variable {C:Cx} {o:Oper} {σ:AS} {t:Nat}
theorem bH {e:TypeId} (g:o.op= .binOp .neq 320 x (.const .nilIface) e) (q:o.dst=some t) (h:t<C.N) (m:σ.eval x=some jx):Fp Tryz.prog C o σ (σ.put t (bv false)):=
 E1 q h fun a w bm gt fp j=>⟨_,by
  have d:=(j.eval m).val
  have k:a.eval (.const .nilIface)= .nilIface:=rfl
  simp only[execOp,g,d,k]
  rw[Au,MW x w]
  rfl,.d (.v _)⟩
theorem uK {e:TypeId} (g:o.op= .binOp .neq 320 x (.const .nilIface) e) (u:o.dst=some t) (j:t<C.N) (q:σ.eval x=some FB):Fp Tryz.prog C o σ (σ.put t (bv true)):=
 E1 u j fun a w bm gt fp k=>by
  have h:=k.eval q
  generalize y:a.eval x=v at h
  unfold FB at h
  cases h with
  |sem _ h=>
   obtain⟨d,p,rfl⟩:=h bm.z w (fun _ _ h=>h) (fun _ _ _=>rfl) (NC.refl w)
   refine⟨_,?_,.d (.v _)⟩
   have m:a.eval (.const .nilIface)= .nilIface:=rfl
   simp only[execOp,g,y,m]
   rw[Au,MX x d p w]
   rfl
end
theorem MY (u:Nat) (h:u<18446744073709551616):aC 181 [.d (.v (.int .u64 u)),iv 10] (sx (Lib.decDigits u)):=by
 refine .of Tryz.func181 Ac rfl rfl fun w fp0 bm gt vs g d=> ?_
 match vs,d with
 |[a,b],d=>
  rw[d.1.val,d.2.1.val]
  refine(FC u h w g.pow).mono ?_
  rintro e w' ⟨rfl,j⟩
  exact⟨_,rfl,j,fun fp _ _ bm gt=> .d (.v _)⟩
theorem yI (u:Nat) (d:u<18446744073709551616):aC 156 [.d (.v (.int .u64 u)),iv 10] (sx (Lib.decDigits u)):=by
 have h:=MY u d
 refine acQ 8 Tryz.func156 rfl rfl fun _ _ _=> ?_
 (repeat'((conv=>whnf);refine Al h rfl ?_));(all_goals(conv=>whnf))
 all_goals exact zE
theorem MZ (ps:List (List UInt8)) (Q:ps≠[]) (X:ps.length≤4000000) (Y:(Lib.join ps [46]).length≤100000000):aC 157 [.d (Yt false ps),.d (.v (.string ⟨#[46]⟩))] (sx (Lib.join ps [46])):=by
 refine .of Tryz.func157 Ac rfl rfl fun w fp0 bm gt vs Z m=> ?_
 match vs,m with
 |[a,b],m=>
  rw[m.2.1.val]
  have h:=m.1
  generalize g:AV.d (Yt false ps)=q at h
  cases h with
  |d h=>
   cases g
   unfold Yt J5 at h
   generalize g:D.sl false ps.length 1 (ps.flatMap U0)=q at h
   cases h with
   |sl us N k2 k3 B k5 k6 R L=>
    cases g
    rw[bG] at B
    obtain⟨p,r,rfl⟩:∃p r,ps=p::r:=by cases ps with|nil=>exact Bg rfl Q|cons p r=>exact⟨p,r,rfl⟩
    have k:0<us.length:=by rw[B];simp
    have u:us[0]?=some us[0]:=Ev k
    obtain⟨F,o,rfl,-,-,A⟩:=L 0 _ u
    have E:F<w.heap.size:=World.block_lt_of_cell? w _ A
    have O:((p::r).map fun p=>(⟨⟨p⟩⟩:ByteArray)).map (·.data.toList)=p::r:=by rw[Dg];exact List.map_id _
    have J:=Tryz.strings_Join F o _ ((p::r).map fun p=>⟨⟨p⟩⟩) ⟨#[46]⟩ w (fun j x H=> ?_) E (by rw[Ba];omega) (by rw[Ba];exact N) (by grind)
    ·rw[O,Ba] at J
     refine J.mono ?_
     rintro e w' ⟨rfl,V⟩
     exact⟨_,rfl,V,fun fp _ _ bm gt=> .d (.v _)⟩
    ·rw[Bk,A8] at H
     obtain⟨y,K,rfl⟩:=H
     have M:j<us.length:=by rw[B];exact(Ew.1 K).1
     have I:us[j]?=some us[j]:=Ev M
     obtain⟨W,o',U,-,-,T⟩:=L j _ I
     cases U
     rw[T]
     have:=R j (.v (.string ⟨⟨y⟩⟩)) us[j] (by rw[oA,K];rfl) I
     generalize us[j]=z at this
     cases this;rfl
   |v=>cases g
   |cp=>cases g
   |fn=>cases g
  |ptr=>cases g
  |own=>cases g
  |agg=>cases g
  |tup=>cases g
  |sem=>cases g
  |cl=>cases g
  |pk=>cases g
theorem Xv:∀(a:List Nat),Lib.join (a.map Lib.decDigits) [46]=Jc a
 |[]=>rfl
 |[n]=>by simp[Lib.join,Jc,List.intercalate]
 |n::m::r=>by
  have d:=Xv (m::r)
  rw[Jc,←d]
  simp[Lib.join,List.intercalate]
def uL (n:Nat):List D:=[.v (.int .u32 n)]
def uM (t:Bool) (a:List Nat):D:=J5 t 1 uL a
theorem yJ (t:Bool) (a:List Nat):(uM t a).un=uM false a:=K3 (fun _=>rfl) t 1 a
def FD (n:Nat):List D:=[.v (.int .u64 n)]
def ed (t:Bool) (a:List Nat):D:=J5 t 1 FD a
theorem yK (t:Bool) (a:List Nat):(ed t a).un=ed false a:=K3 (fun _=>rfl) t 1 a
theorem bI {f:α→List D} (e:∀x,Ef (f x)=f x) (l:List α):Ef (l.flatMap f)=l.flatMap f:=by
 induction l with
 |nil=>rfl
 |cons x r d=>grind [I1]
theorem yL (a:List Nat):Ef (a.flatMap uL)=a.flatMap uL:=bI (fun _=>rfl) a
theorem yM (a:List Nat):Ef (a.flatMap FD)=a.flatMap FD:=bI (fun _=>rfl) a
theorem yN (a:List (List UInt8)):Ef (a.flatMap U0)=a.flatMap U0:=bI (fun _=>rfl) a
abbrev uv (n:Nat):AV:= .d (.v (.int .u64 n))
abbrev wv (n:Nat):AV:= .d (.v (.int .u32 n))
theorem Wh (a:List Nat) (d:a.length≤1000000000):aC 155 [.d (uM false a)] (bv (Jj a)):=by
 match a,d with
 |[],_=>
  refine acQ 24 Tryz.func155 rfl rfl fun _ _ _=> ?_
  (repeat'((conv=>whnf);refine Ej ?_));(all_goals(conv=>whnf))
  all_goals exact zE
 |[x],_=>
  refine acQ 24 Tryz.func155 rfl rfl fun _ _ _=> ?_
  (repeat'((conv=>whnf);refine Ej ?_));(all_goals(conv=>whnf))
  all_goals exact zE
 |x::y::r,d=>
  have g:(x::y::r)[0]?=some x:=rfl
  have j:(x::y::r)[1]?=some y:=rfl
  simp only[D9] at d
  by_cases h:x≤2
  ·have q:decide ((x:Int)>2)=false:=Ao Aa
   by_cases k:x<2
   ·have m:decide ((x:Int)<2)=true:=Aq Aa
    have e:Jj (x::y::r)=decide ((y:Int)<40):=by
     rw[Jj,Aj k,Aq h,Cd,decide_eq_decide];omega
    rw[e]
    refine acQ 24 Tryz.func155 rfl rfl fun _ _ _=> ?_
    (repeat'((conv=>whnf);first|refine zD ?_|refine He asP ?_|refine NIdx.tab (fun _=>rfl) g ?_|refine NIdx.tab (fun _=>rfl) j ?_|exact zE))
   ·have m:decide ((x:Int)<2)=false:=Ao Aa
    have e:Jj (x::y::r)=decide ((y:Int)≤4294967215):=by
     rw[Jj,Ai k,Aq h,Cd,decide_eq_decide];omega
    rw[e]
    refine acQ 24 Tryz.func155 rfl rfl fun _ _ _=> ?_
    (repeat'((conv=>whnf);first|refine zA ?_|refine NIdx.tab (fun _=>rfl) g ?_|refine NIdx.tab (fun _=>rfl) j ?_|exact zE))
  ·have q:decide ((x:Int)>2)=true:=Aq Aa
   have e:Jj (x::y::r)=false:=by rw[Jj,Ao h];rfl
   rw[e]
   refine acQ 24 Tryz.func155 rfl rfl fun _ _ _=> ?_
   (repeat'((conv=>whnf);first|refine zD ?_|refine NIdx.tab (fun _=>rfl) g ?_|exact zE))
def oB (s:List UInt8):AV:=match La s with
 |some a=> .tup [.d (uM true a),iv 0]
 |none=> .tup [Ff,iv 11]
theorem Ts:∀{ps:List (List UInt8)} {a:List Nat},Lq ps=some a→a.length=ps.length
 |[],a,h=>by rw[Lq] at h;cases h;rfl
 |p::r,a,h=>by
  rw[Lq] at h
  split at h
  ·rename_i n l e d
   cases h
   rw[D9,D9,Ts d]
  ·cases h
theorem bJ:∀{ps:List (List UInt8)} {a:List Nat} {p:List UInt8} {n:Nat},Lq ps=some a→Wb p=some n→Lq (ps++[p])=some (a++[n])
 |[],a,p,n,h,hp=>by grind [Lq]
 |q::r,a,p,n,h,hp=>by
  rw[Lq] at h
  split at h
  ·rename_i m l d e
   cases h
   rw[Ak,Lq,d,bJ e hp];rfl
  ·cases h
theorem U1:∀{ps:List (List UInt8)} {p:List UInt8},p∈ps→Wb p=none→Lq ps=none
 |q::r,p,h,hp=>by
  rw[Lq]
  rcases Bj.1 h with rfl|h
  ·rw[hp]
  ·rw[U1 h hp];cases Wb q<;>rfl
theorem Tt {l:List α} {x:α} (h:l[i]?=some x):l.take (i+1)=l.take i++[x]:=by
 grind [Ew,List.take_succ_eq_append_getElem]
theorem kb (a b:List UInt8):(a==b)=decide (a=b):=by
 grind
theorem jQ:∀(s p:List UInt8),p∈Lh s→p.length≤s.length
 |[],p,h=>by simp[Lh] at h;subst h;simp
 |c::r,p,h=>by
  rw[Lh] at h
  split at h
  ·rcases Bj.1 h with rfl|h
   ·simp
   ·have:=jQ r p h;simp only[D9];omega
  ·obtain⟨q,g,e⟩:=To r
   have d:=jQ r
   grind
theorem bK (h:p:=by first|rfl|(simp only[D8,AV.ren,AV.give,D.un,Ef,D7,D6,Ap,Am,Ak,yJ,Gz,yK,Fy,yL,yM,yN];first|done|rfl)):p:=h
theorem Sv (s:List UInt8) (T:s.length≤4000000):aC 165 [sx s] (oB s):=by
 have L:=jP s T
 have H:=Wg s
 have h:=jQ s
 unfold oB La
 generalize Lh s=ps at L H h⊢
 refine acQ 39 Tryz.func165 rfl rfl fun _ _ _=> ?_
 (repeat'((conv=>whnf);refine Al L rfl ?_));(all_goals(conv=>whnf))
 refine F2 [.s 4 1 215] (fun p:Nat×List Nat=>p.1≤ps.length∧Lq (ps.take p.1)=some p.2) (fun p=>ps.length-p.1) (fun p=>⟨[(4,Fy 4 1 215 uL p.2),(10,.d (Yt true ps)),(11,iv ps.length),(12,iv p.1)],[],[(4,(p.2.length,1,215))]⟩) (0,[]) ⟨Ab,rfl⟩ leQ ?_
 rintro⟨i,E⟩ ⟨Q,e⟩
 simp only at Q e
 have B:=Ts e
 rw[Ec] at B
 by_cases F:i<ps.length
 ·obtain⟨p,j⟩:∃p,ps[i]?=some p:=⟨_,Ev F⟩
  have R:=h p (F9 j)
  have k:=uJ p Aa
  unfold puA at k
  have N:(∃u,Lib.parseUintB 32 p= .ok u)∨∃n,aC 190 [sx p,iv 10,iv 32] (.tup [uv n,FB])∧Wb p=none:=by
   unfold Wb
   generalize Lib.parseUintB 32 p=q at k
   cases q with
   |ok u=>exact .inl ⟨u,rfl⟩
   |_=>exact .inr ⟨_,k,rfl⟩
  rcases N with⟨u,v⟩|⟨n,J,O⟩
  ·rw[v] at k
   have K:=Lib.parseUintB_le v
   have M:=yI u Aa
   by_cases m:Lib.decDigits u=p
   ·have A:Wb p=some u:=by unfold Wb;rw[v];exact Aj m
    have I:(!(Lib.decDigits u==p))=false:=by rw[m];simp
    (repeat'((conv=>whnf);first|refine zA ?_|refine NIdx.tab (fun _=>rfl) j ?_|refine Al k rfl ?_|refine Al M rfl ?_|refine Cs (bH rfl rfl (ltN rfl) rfl) ?_|refine E4 uL u ?_|refine zI ?_|(refine E7 (fun g d=> ?_) (fun g d=> ?_)<;>try(exfalso;omega))));(all_goals(conv=>whnf))
    refine⟨(i+1,E++[u]),⟨by show i+1≤_;omega,?_⟩,by show ps.length-(i+1)<ps.length-i;omega,?_⟩
    ·show Lq (ps.take (i+1))=_
     rw[Tt j];exact bJ e A
    ·exact leQ
   ·have A:Wb p=none:=by unfold Wb;rw[v];exact Ai m
    have I:(!(Lib.decDigits u==p))=true:=by rw[kb,Ao m];rfl
    rw[U1 (F9 j) A]
    (repeat'((conv=>whnf);first|refine zD ?_|refine NIdx.tab (fun _=>rfl) j ?_|refine Al k rfl ?_|refine Al M rfl ?_|refine Cs (bH rfl rfl (ltN rfl) rfl) ?_|(refine E7 (fun g d=> ?_) (fun g d=> ?_)<;>try(exfalso;omega))|exact zE))
  ·rw[U1 (F9 j) O]
   (repeat'((conv=>whnf);first|refine Ej ?_|refine NIdx.tab (fun _=>rfl) j ?_|refine Al J rfl ?_|refine Cs (uK rfl rfl (ltN rfl) rfl) ?_|(refine E7 (fun g d=> ?_) (fun g d=> ?_)<;>try(exfalso;omega))|exact zE))
 ·obtain rfl:i=ps.length:=by omega
  rw[Bv] at e
  have z:=Wh E Aa
  rw[e]
  cases y:Jj E
  ·rw[y] at z
   simp only[y]
   (repeat'((conv=>whnf);first|refine Ej ?_|refine Al z bK ?_|(refine E7 (fun g d=> ?_) (fun g d=> ?_)<;>try(exfalso;omega))|exact zE))
  ·rw[y] at z
   simp only[y]
   (repeat'((conv=>whnf);first|refine Ee ?_|refine Al z bK ?_|(refine E7 (fun g d=> ?_) (fun g d=> ?_)<;>try(exfalso;omega))|exact zE))
theorem Kq (s:List UInt8) (e:s.length≤4000000):aC 131 [sx s] (bv (H7 s)):=by
 have d:=Sv s e
 unfold oB at d
 unfold H7
 generalize La s=q at d⊢
 cases q with
 |none=>
  refine acQ 12 Tryz.func131 rfl rfl fun _ _ _=> ?_
  (repeat'((conv=>whnf);refine Al d rfl ?_));(all_goals(conv=>whnf))
  all_goals exact zE
 |some a=>
  refine acQ 12 Tryz.func131 rfl rfl fun _ _ _=> ?_
  (repeat'((conv=>whnf);refine Al d rfl ?_));(all_goals(conv=>whnf))
  all_goals exact zE
theorem yO (n:Nat) (d:n≤4294967295):(Lib.decDigits n).length≤20:=by
 rw[Lib.decDigits_length]
 have:=Lib.nDigits_pos n
 rcases Nat.eq_zero_or_pos n with h|h
 ·grind [Lib.nDigits_small]
 ·have:=Lib.numDigits_eq n h Aa
  grind
theorem Xw:∀(a:List Nat),(∀n∈a,n≤4294967295)→(Jc a).length≤21*a.length
 |[],_=>by simp[Jc]
 |[n],h=>by
  grind [yO,Jc,List.length_singleton]
 |n::m::r,h=>by
  have g:=yO n (h n Ab)
  have d:=Xw (m::r) (fun x e=>h x (by simp[e]))
  rw[Jc,En,D9]
  simp only[D9] at d⊢
  omega
theorem oC (a:List Nat) (u:∀n∈a,n≤4294967295) (B:a.length≤4000000):aC 119 [.d (uM false a)] (if Jj a then .tup [sx (Jc a),iv 0] else .tup [sx [],iv 8]):=by
 have e:=Wh a Aa
 cases k:Jj a
 ·rw[k] at e
  rw[Ai Ab]
  refine acQ 25 Tryz.func119 rfl rfl fun _ _ _=> ?_
  (repeat'((conv=>whnf);first|refine Ej ?_|refine Al e bK ?_|exact zE))
 ·rw[k] at e
  rw[Aj rfl]
  obtain⟨x,y,r,m,-⟩:=Lr k
  have v:=Xw a u
  have q:=MZ (a.map Lib.decDigits) (by rw[m];simp) (by rw[Ba];omega) (by rw[Xv];omega)
  rw[Xv] at q
  refine acQ 25 Tryz.func119 rfl rfl fun _ _ _=> ?_
  (repeat'((conv=>whnf);first|refine Ee ?_|refine Al e bK ?_));(all_goals(conv=>whnf))
  refine F2 [.s 4 1 9] (fun i:Nat=>i≤a.length) (fun i=>a.length-i) (fun i=>⟨[(4,Fy 4 1 9 U0 ((a.take i).map Lib.decDigits)),(10,.d (uM false a)),(11,iv a.length),(12,iv i)],[],[(4,(((a.take i).map Lib.decDigits).length,1,9))]⟩) 0 Ab leQ ?_
  intro i F
  by_cases h:i<a.length
  ·obtain⟨n,g⟩:∃n,a[i]?=some n:=⟨_,Ev h⟩
   have z:=u n (F9 g)
   have A:=yI n Aa
   have E:((a.take i).map Lib.decDigits).length≤4000000:=by rw[Ba,Ec];omega
   (repeat'((conv=>whnf);first|refine NIdx.tab (fun _=>rfl) g ?_|refine Al A rfl ?_|refine E4 U0 (Lib.decDigits n) ?_|refine zI ?_|(refine E7 (fun j d=> ?_) (fun j d=> ?_)<;>try(exfalso;omega))));(all_goals(conv=>whnf))
   refine⟨i+1,Aa,Aa,?_⟩
   rw[Tt g,Cp]
   exact leQ
  ·obtain rfl:i=a.length:=by omega
   rw[Bv]
   (repeat'((conv=>whnf);first|refine Al q bK ?_|(refine E7 (fun j d=> ?_) (fun j d=> ?_)<;>try(exfalso;omega))|exact zE))
theorem bL {t:Nat} {k k':IntKind} {m n:Int} {y:Operand} {ats:Array TypeId} (v:Int) (hv:(if n<m then n else m)=v) (ho:o.op= .call {callee:= .builtin .min,args:=#[x,y],argTypes:=ats}) (hd:o.dst=some t) (ht:t<C.N) (hx:σ.eval x=some (.d (.v (.int k m)))) (hy:σ.eval y=some (.d (.v (.int k' n)))):Fp P C o σ (σ.put t (.d (.v (.int k v)))):=
 E1 hd ht fun a w bm gt fp hg=>by
  have h1:=(hg.eval hx).val
  have h2:=(hg.eval hy).val
  refine⟨_,?_,.d (.v _)⟩
  simp only[execOp,ho,resolve,invoke,builtin,Au,Bs,A6,List.map_toArray,Bc,List.map_nil,h1,h2]
  subst hv
  simp[go_sem]
  omega
theorem ee (x:UInt8):IntKind.u8.wrap ((BitVec.ofInt IntKind.u8.bits (x.toNat:Int)&&&BitVec.ofInt IntKind.u8.bits 127).toNat:Int)=((x.toNat%128:Nat):Int):=by
 have h:∀x:Fin 256,IntKind.u8.wrap ((BitVec.ofInt IntKind.u8.bits (x.1:Int)&&&BitVec.ofInt IntKind.u8.bits 127).toNat:Int)=((x.1%128:Nat):Int):=by decide+kernel
 exact h ⟨x.toNat,x.toNat_lt⟩
theorem uN (x:UInt8):IntKind.u8.wrap ((BitVec.ofInt IntKind.u8.bits (x.toNat:Int)&&&BitVec.ofInt IntKind.u8.bits 128).toNat:Int)=((x.toNat/128*128:Nat):Int):=by
 have h:∀x:Fin 256,IntKind.u8.wrap ((BitVec.ofInt IntKind.u8.bits (x.1:Int)&&&BitVec.ofInt IntKind.u8.bits 128).toNat:Int)=((x.1/128*128:Nat):Int):=by decide+kernel
 exact h ⟨x.toNat,x.toNat_lt⟩
theorem mw (n:Nat) (d:n≤4294967295):IntKind.u64.wrap ((n:Int)*2^(min (Int.toNat 7) IntKind.u64.bits))=((n*128:Nat):Int):=by
 have:(2:Int)^(min (Int.toNat 7) IntKind.u64.bits)=128:=Ae
 grind [IntWalk.u64_in]
theorem or7 (n m:Nat) (e:n≤4294967295) (g:m<128):IntKind.u64.wrap ((BitVec.ofInt IntKind.u64.bits ((n*128:Nat):Int)|||BitVec.ofInt IntKind.u64.bits (m:Int)).toNat:Int)=((n*128+m:Nat):Int):=by
 rw[BitVec.toNat_or,BitVec.ofInt_natCast,BitVec.ofInt_natCast,BitVec.toNat_ofNat,BitVec.toNat_ofNat]
 have d:2^IntKind.u64.bits=18446744073709551616:=Ae
 rw[d,Nat.mod_eq_of_lt Aa,Nat.mod_eq_of_lt Aa]
 have:n*128|||m=n*128+m:=by
  have h:=Nat.shiftLeft_add_eq_or_of_lt (i:=7) (b:=m) Aa n
  rw[Nat.shiftLeft_eq] at h
  exact h.symm
 rw[this,IntWalk.u64_in _ Aa]
def Wi (ns:List Nat):Option (List Nat)→Option (List Nat)
 |some l=>some (ns++l)
 |none=>none
theorem uO (d:List Nat) (n:Nat) (o:Option (List Nat)):Wi d (match o with|some l=>some (n::l)|none=>none)=Wi (d++[n]) o:=by
 cases o with
 |none=>rfl
 |some l=>show some (d++n::l)=some (d++[n]++l);simp
theorem NA {l:List α} {x:α} (h:l[i]?=some x):l.drop i=x::l.drop (i+1):=by
 grind [Ew,List.drop_eq_getElem_cons]
theorem uP {c:List UInt8} {x:UInt8} {b:Bool} (d:c[i]?=some x):Hc b n (c.drop i)=if b=false∧x=128 then none else if n*128+x.toNat%128>4294967295 then none else if x.toNat<128 then(match Hc false 0 (c.drop (i+1)) with
 |some l=>some ((n*128+x.toNat%128)::l)
 |none=>none) else Hc true (n*128+x.toNat%128) (c.drop (i+1)):=by
 rw[NA d,Hc]<;>rfl
def Ox (c:List UInt8):AV:= .tup [sx (odT c),iv (odC c)]
theorem Tu {c:List UInt8} (h:Hc false 0 c=none∨Hc false 0 c=some []):Ox c= .tup [sx [],iv 6]:=by
 grind [Y6,Ox,odT,odC]
theorem FE {c:List UInt8} {r:List Nat} (h:Hc false 0 c=some (n::r)):Ox c= .tup [sx (Jc (Li (n::r))),iv 0]:=by
 grind [Y6,Li,Ox,odT,odC]
structure DSt where
 i:Nat
 ns:List Nat
 b:Bool
 n:Nat
theorem VW (h:p:=by first|rfl|(simp only[D8,AV.ren,AV.give,D.un,Ef,D7,D6,Ap,Am,Ak,yJ,Gz,yK,Fy,yL,yM,yN];first|done|rfl)):p:=h
theorem G5 (c:List UInt8) (e:c.length≤900000):aC 66 [.d (By false c)] (Ox c):=by
 refine acQ 87 Tryz.func66 rfl rfl fun _ _ _=> ?_
 (all_goals(conv=>whnf))
 refine F2 [.s 4 1 213] (fun p:DSt=>p.i≤c.length∧p.ns.length≤p.i∧p.n≤4294967295∧(p.b=false→p.n=0)∧Hc false 0 c=Wi p.ns (Hc p.b p.n (c.drop p.i))) (fun p=>c.length-p.i) (fun p=>⟨[(4,Fy 4 1 213 FD p.ns),(5,bv p.b),(6,uv p.n),(15,.d (By false c)),(16,iv c.length),(17,iv p.i)],[],[(4,(p.ns.length,1,213))]⟩) ⟨0,[],false,0⟩ ⟨Ab,Ab,Ab,Ab,(by show Hc false 0 c=Wi [] (Hc false 0 c);cases Hc false 0 c<;>rfl)⟩ leQ ?_
 rintro⟨i,A,b,n⟩ ⟨U,K,N,R,k⟩
 simp only at U K N R k
 by_cases B:i<c.length
 ·obtain⟨x,z⟩:∃x,c[i]?=some x:=⟨_,Ev B⟩
  have Z:=x.toNat_lt
  rw[uP z] at k
  have u:(!b&&((x.toNat:Int)==128))=decide (b=false∧x=128):=by
   have:((x.toNat:Int)==128)=decide (x=128):=by
    rw[Bz,A9,A3,←B8]
    show _↔x.toNat=128
    omega
   rw[this];cases b<;>simp
  by_cases I:b=false∧x=128
  ·rw[Aj I] at k
   rw[Tu (.inl k)]
   obtain⟨rfl,rfl⟩:=I
   have g:(((128:UInt8).toNat:Int)==128)=true:=Ae
   (repeat'((conv=>whnf);first|refine Ej ?_|refine NIdx.bytes z ?_|(refine NBr.mk (fun e=> ?_) (fun e=> ?_)<;>(have d:=e;(try simp only[A3,Ar] at d)<;>first|(exfalso;omega)|skip))|exact zE))
  ·rw[Ai I] at k
   have J:=ee x
   have F:=uN x
   have E:=mw n N
   have H:=or7 n (x.toNat%128) N Aa
   by_cases T:n*128+x.toNat%128>4294967295
   ·rw[Aj T] at k
    rw[Tu (.inl k)]
    have W:decide (((n*128+x.toNat%128:Nat):Int)>4294967295)=true:=Aq Aa
    cases b
    ·have g:((x.toNat:Int)==128)=false:=by
      rw[Bool.not_false,Cd] at u
      rw[u,Ao I]
     (repeat'((conv=>whnf);first|refine zD ?_|refine He asP ?_|refine NIdx.bytes z ?_|refine NInt.as (((n*128:Nat):Int)) (E) ?_|refine NInt.as (((x.toNat%128:Nat):Int)) (J) ?_|refine NInt.as (((n*128+x.toNat%128:Nat):Int)) (H) ?_|refine NInt.as (((x.toNat/128*128:Nat):Int)) (F) ?_|refine zI ?_|refine Fv (by first|decide|omega|(simp only[D9,Ax];omega)) ?_|(refine NBr.mk (fun e=> ?_) (fun e=> ?_)<;>(have d:=e;(try simp only[A3,Ar] at d)<;>first|(exfalso;omega)|skip))|exact zE))
    ·(repeat'((conv=>whnf);first|refine zD ?_|refine NIdx.bytes z ?_|refine NInt.as (((n*128:Nat):Int)) (E) ?_|refine NInt.as (((x.toNat%128:Nat):Int)) (J) ?_|refine NInt.as (((n*128+x.toNat%128:Nat):Int)) (H) ?_|refine NInt.as (((x.toNat/128*128:Nat):Int)) (F) ?_|refine zI ?_|refine Fv (by first|decide|omega|(simp only[D9,Ax];omega)) ?_|(refine NBr.mk (fun e=> ?_) (fun e=> ?_)<;>(have d:=e;(try simp only[A3,Ar] at d)<;>first|(exfalso;omega)|skip))|exact zE))
   ·rw[Ai T] at k
    have W:decide (((n*128+x.toNat%128:Nat):Int)>4294967295)=false:=Ao Aa
    by_cases V:x.toNat<128
    ·rw[Aj V,uO] at k
     have v:(((x.toNat/128*128:Nat):Int) !=0)=false:=by rw[B1];omega
     cases b
     ·have g:((x.toNat:Int)==128)=false:=by
       rw[Bool.not_false,Cd] at u
       rw[u,Ao I]
      (repeat'((conv=>whnf);first|refine zA ?_|refine NIdx.bytes z ?_|refine NInt.as (((n*128:Nat):Int)) (E) ?_|refine NInt.as (((x.toNat%128:Nat):Int)) (J) ?_|refine NInt.as (((n*128+x.toNat%128:Nat):Int)) (H) ?_|refine NInt.as (((x.toNat/128*128:Nat):Int)) (F) ?_|refine E4 FD (n*128+x.toNat%128) ?_|refine zI ?_|refine Fv (by first|decide|omega|(simp only[D9,Ax];omega)) ?_|(refine NBr.mk (fun e=> ?_) (fun e=> ?_)<;>(have d:=e;(try simp only[A3,Ar,Av,B1,Du,Ca,Bool.not_eq_false'] at d)<;>first|(exfalso;omega)|skip))));(all_goals(conv=>whnf))
      refine⟨⟨i+1,A++[n*128+x.toNat%128],(((x.toNat/128*128:Nat):Int) !=0),0⟩,⟨by show i+1≤_;omega,Af,Ab,fun _=>rfl,?_⟩,by show c.length-(i+1)<c.length-i;omega,?_⟩
      ·show Hc false 0 c=Wi _ (Hc (((x.toNat/128*128:Nat):Int) !=0) 0 (c.drop (i+1)))
       rw[v];exact k
      ·exact leQ
     ·(repeat'((conv=>whnf);first|refine zA ?_|refine NIdx.bytes z ?_|refine NInt.as (((n*128:Nat):Int)) (E) ?_|refine NInt.as (((x.toNat%128:Nat):Int)) (J) ?_|refine NInt.as (((n*128+x.toNat%128:Nat):Int)) (H) ?_|refine NInt.as (((x.toNat/128*128:Nat):Int)) (F) ?_|refine E4 FD (n*128+x.toNat%128) ?_|refine zI ?_|refine Fv (by first|decide|omega|(simp only[D9,Ax];omega)) ?_|(refine NBr.mk (fun e=> ?_) (fun e=> ?_)<;>(have d:=e;(try simp only[A3,Ar,Av,B1,Du,Ca,Bool.not_eq_false'] at d)<;>first|(exfalso;omega)|skip))));(all_goals(conv=>whnf))
      refine⟨⟨i+1,A++[n*128+x.toNat%128],(((x.toNat/128*128:Nat):Int) !=0),0⟩,⟨by show i+1≤_;omega,Af,Ab,fun _=>rfl,?_⟩,by show c.length-(i+1)<c.length-i;omega,?_⟩
      ·show Hc false 0 c=Wi _ (Hc (((x.toNat/128*128:Nat):Int) !=0) 0 (c.drop (i+1)))
       rw[v];exact k
      ·exact leQ
    ·rw[Ai V] at k
     have v:(((x.toNat/128*128:Nat):Int) !=0)=true:=by rw[Av];omega
     cases b
     ·have g:((x.toNat:Int)==128)=false:=by
       rw[Bool.not_false,Cd] at u
       rw[u,Ao I]
      (repeat'((conv=>whnf);first|refine zA ?_|refine NIdx.bytes z ?_|refine NInt.as (((n*128:Nat):Int)) (E) ?_|refine NInt.as (((x.toNat%128:Nat):Int)) (J) ?_|refine NInt.as (((n*128+x.toNat%128:Nat):Int)) (H) ?_|refine NInt.as (((x.toNat/128*128:Nat):Int)) (F) ?_|refine zI ?_|refine Fv (by first|decide|omega|(simp only[D9,Ax];omega)) ?_|(refine NBr.mk (fun e=> ?_) (fun e=> ?_)<;>(have d:=e;(try simp only[A3,Ar,Av,B1,Du,Ca,Bool.not_eq_false'] at d)<;>first|(exfalso;omega)|skip))));(all_goals(conv=>whnf))
      refine⟨⟨i+1,A,(((x.toNat/128*128:Nat):Int) !=0),n*128+x.toNat%128⟩,⟨by show i+1≤_;omega,by show A.length≤i+1;omega,by show n*128+x.toNat%128≤_;omega,fun h=> ?_,?_⟩,by show c.length-(i+1)<c.length-i;omega,?_⟩
      ·rw[show(((x.toNat/128*128:Nat):Int) !=0)=false from h] at v;cases v
      ·show Hc false 0 c=Wi _ (Hc (((x.toNat/128*128:Nat):Int) !=0) _ (c.drop (i+1)))
       rw[v];exact k
      ·exact leQ
     ·(repeat'((conv=>whnf);first|refine zA ?_|refine NIdx.bytes z ?_|refine NInt.as (((n*128:Nat):Int)) (E) ?_|refine NInt.as (((x.toNat%128:Nat):Int)) (J) ?_|refine NInt.as (((n*128+x.toNat%128:Nat):Int)) (H) ?_|refine NInt.as (((x.toNat/128*128:Nat):Int)) (F) ?_|refine zI ?_|refine Fv (by first|decide|omega|(simp only[D9,Ax];omega)) ?_|(refine NBr.mk (fun e=> ?_) (fun e=> ?_)<;>(have d:=e;(try simp only[A3,Ar,Av,B1,Du,Ca,Bool.not_eq_false'] at d)<;>first|(exfalso;omega)|skip))));(all_goals(conv=>whnf))
      refine⟨⟨i+1,A,(((x.toNat/128*128:Nat):Int) !=0),n*128+x.toNat%128⟩,⟨by show i+1≤_;omega,by show A.length≤i+1;omega,by show n*128+x.toNat%128≤_;omega,fun h=> ?_,?_⟩,by show c.length-(i+1)<c.length-i;omega,?_⟩
      ·rw[show(((x.toNat/128*128:Nat):Int) !=0)=false from h] at v;cases v
      ·show Hc false 0 c=Wi _ (Hc (((x.toNat/128*128:Nat):Int) !=0) _ (c.drop (i+1)))
       rw[v];exact k
      ·exact leQ
 ·obtain rfl:i=c.length:=by omega
  rw[List.drop_length] at k
  cases b
  ·rw[Hc,Ai Ab] at k
   simp only[Wi,Am] at k
   cases A with
   |nil=>
    rw[Tu (.inr k)]
    (repeat'((conv=>whnf);first|refine zY ?_|(refine NBr.mk (fun e=> ?_) (fun e=> ?_)<;>(have d:=e;(try simp only[A3,Ar] at d)<;>first|(exfalso;omega)|skip))|exact zE))
   |cons j r=>
    rw[FE k]
    obtain⟨-,Q⟩:=Q9 c false 0 _ Aa Ab (fun _=>rfl) k
    obtain⟨k3,k4,k5⟩:=We (l:=j::r) Ab Q
    have hn0:=Q j Ab
    rw[D9] at K
    have L:=oC (Li (j::r)) k4 (by rw[Li];simp only[D9];omega)
    rw[Aj k3] at L
    have Y:(j::r)[0]?=some j:=rfl
    have hz:((((j::r).length:Nat):Int)==0)=false:=by rw[D9,An];omega
    have y:(if(2:Int)<((j/40:Nat):Int) then(2:Int) else((j/40:Nat):Int))=((min (j/40) 2:Nat):Int):=by
     split<;>omega
    have w1:IntKind.u32.wrap ((min (j/40) 2:Nat):Int)=((min (j/40) 2:Nat):Int):=IntWalk.u32_in _ Aa
    generalize X:min (j/40) 2=q at L y w1
    have hq2:q≤2∧q*40≤j:=Aa
    have M:Li (j::r)=q::(j-40*q)::r:=by rw[Li,X]
    rw[M] at L⊢
    have O:((j::r).drop 1).take ((j::r).length-1)=r:=Ab
    have ar:∀m:Int,m=((j-40*q:Nat):Int)→IntKind.u64.wrap m=((j-40*q:Nat):Int):=fun m y=>by rw[y,IntWalk.u64_in _ Aa]
    (repeat'((conv=>whnf);first|refine Ee ?_|refine NIdx.tab (fun _=>rfl) Y ?_|refine NSl.tab (fun _=>rfl) 1 (j::r).length r O ?_|refine Cs (bL ((q:Nat):Int) y rfl rfl (ltN rfl) rfl rfl) ?_|refine NInt.as (((j-40*q:Nat):Int)) (ar _ Aa) ?_|refine zI ?_|refine Fv (by first|decide|omega|(simp only[D9,Ax];omega)) ?_|(refine NBr.mk (fun e=> ?_) (fun e=> ?_)<;>(have d:=e;(try simp only[A3,Ar] at d)<;>first|(exfalso;omega)|skip))));(all_goals(conv=>whnf))
    refine Fh (fun i:Nat=>i≤r.length) (fun i=>r.length-i) (fun i=>⟨[(10,Fy 65 1 215 uL (q::(j-40*q)::r.take i)),(67,.d (ed true r)),(68,iv r.length),(69,iv i)],[],[(65,((q::(j-40*q)::r.take i).length,1,215))]⟩) 0 Ab leQ ?_
    intro i U
    by_cases B:i<r.length
    ·obtain⟨m,y⟩:∃n,r[i]?=some n:=⟨_,Ev B⟩
     have hmb:=Q m (by simp[F9 y])
     (repeat'((conv=>whnf);first|refine NIdx.tab (fun _=>rfl) y ?_|refine E4 uL m ?_|refine zI ?_|(refine NBr.mk (fun e=> ?_) (fun e=> ?_)<;>(have d:=e;(try simp only[A3,Ar] at d)<;>first|(exfalso;omega)|skip))));(all_goals(conv=>whnf))
     refine⟨i+1,Aa,Aa,?_⟩
     rw[Tt y]
     exact leQ
    ·obtain rfl:i=r.length:=by omega
     rw[Bv]
     (repeat'((conv=>whnf);first|refine Ee ?_|refine Al L VW ?_|(refine NBr.mk (fun e=> ?_) (fun e=> ?_)<;>(have d:=e;(try simp only[A3,Ar] at d)<;>first|(exfalso;omega)|skip))|exact zE))
  ·rw[Hc,Aj rfl] at k
   rw[Tu (.inl k)]
   (repeat'((conv=>whnf);first|refine Ej ?_|(refine NBr.mk (fun e=> ?_) (fun e=> ?_)<;>(have d:=e;(try simp only[A3,Ar] at d)<;>first|(exfalso;omega)|skip))|exact zE))
theorem Wj (l:Bool):∀(k n:Nat),n<128^(k+1)→(H5 l n).length≤k+1:=by
 intro k
 induction k generalizing l with
 |zero=>intro n h;rw[Jt l (by simpa using h)];simp
 |succ k e=>
  intro n h
  by_cases d:n<128
  ·rw[Jt l d];simp
  ·have:=e false (n/128) (by rw[Db] at h;omega)
   rw[Ow l d,En,Cc];omega
theorem yP (n:Nat) (e:n≤4294967295):IntKind.u32.wrap ((BitVec.ofInt IntKind.u32.bits (n:Int)&&&BitVec.ofInt IntKind.u32.bits 127).toNat:Int)=((n%128:Nat):Int):=by
 rw[show(127:Int)=((127:Nat):Int) from rfl,BitVec.ofInt_natCast,BitVec.ofInt_natCast,BitVec.toNat_and,BitVec.toNat_ofNat,BitVec.toNat_ofNat]
 have d:2^IntKind.u32.bits=4294967296:=Ae
 rw[d,Nat.mod_eq_of_lt Aa,Nat.mod_eq_of_lt Aa]
 have:=Nat.and_two_pow_sub_one_eq_mod n 7
 rw[show 2^7-1=127 from rfl] at this
 rw[this,IntWalk.u32_in _ Aa]
theorem ef (m:Nat) (d:m<128):IntKind.u32.wrap ((BitVec.ofInt IntKind.u32.bits (m:Int)|||BitVec.ofInt IntKind.u32.bits 128).toNat:Int)=((m+128:Nat):Int):=by
 have h:∀x:Fin 128,IntKind.u32.wrap ((BitVec.ofInt IntKind.u32.bits (x.1:Int)|||BitVec.ofInt IntKind.u32.bits 128).toNat:Int)=((x.1+128:Nat):Int):=by decide+kernel
 exact h ⟨m,d⟩
theorem bf (n:Nat):(n:Int).fdiv (2^(min (Int.toNat 7) IntKind.u32.bits))=((n/128:Nat):Int):=VL (k:=7) n rfl
def hiB (q:Nat):List UInt8:=if q=0 then [] else H5 false q
theorem yQ (l:Bool) (n:Nat):H5 l n=hiB (n/128)++[UInt8.ofNat (n%128+if l then 0 else 128)]:=by
 unfold hiB
 by_cases h:n<128
 ·rw[Jt l h,Aj (show n/128=0 by omega)];rfl
 ·rw[Ow l h,Ai (show¬n/128=0 by omega)]
theorem yR (n:Nat) (F:n≤4294967295) {c:Code} (g:Tryz.f166.body=some c) (vs:List Value) (j:nX [wv n,.ptr 6 0] vs) (W:World) (fp0 E:Nat→Nat→Prop):
 yH Tryz.prog ⟨W,fp0,26,fun _=>none,E⟩ tab (bB 3 c) (fun tm bx tk=>eb vs [1] 3 (H5 true n).length 1 5 (Fj (H5 true n)) ⟨tm,bx,tk⟩) (bE 0 vs) [] []:=by
 have h:=Az g
 match vs,j with
 |[v0,v1],j=>
  obtain⟨rfl,-⟩:=j
  subst h
  have K:=Wj true 4 n Aa
  have J:=yP n F
  have A:=bf n
  (repeat'((conv=>whnf);first|refine NInt.as (((n%128:Nat):Int)) (J) ?_|refine NInt.as (((n/128:Nat):Int)) (A) ?_|(with_reducible refine V2 ?_)|refine Fv (by first|decide|omega|(simp only[D9,Ax];omega)) ?_));(all_goals(conv=>whnf))
  refine Fh (fun p:Nat×List UInt8=>p.1≤4294967295∧0<p.2.length∧hiB p.1++p.2.reverse=H5 true n) (fun p=>p.1) (fun p=>⟨[(0,wv p.1),(1,.d (.v v1)),(3,Hp 7 5 p.2)],[],[(7,(p.2.length,1,5))]⟩) (n/128,[UInt8.ofNat (n%128)]) ⟨by show n/128≤_;omega,Ab,(by rw[yQ];rfl)⟩ leQ ?_
  rintro⟨q,d⟩ ⟨v,u,e⟩
  simp only[] at v u e
  have I:d.length≤5:=by
   have:=Cf List.length e
   simp only[En,List.length_reverse] at this
   omega
  by_cases y:q=0
  ·subst y
   rw[hiB,Aj rfl,Ap] at e
   (repeat'((conv=>whnf);refine Ee ?_));(all_goals(conv=>whnf))
   refine Cs (nM (l:=d) (tm':=[(1,.d (.v v1)),(3,Hp 7 5 d.reverse)]) Tryz.laysRev (P2 Tryz.func167 Ac rfl) rfl rfl (ltN rfl) rfl rfl u Aa (.v rfl (.own rfl .nil)) rfl) ?_
   (all_goals(conv=>whnf))
   rw[e]
   exact⟨7,rfl,rfl,⟨v1,rfl,rfl⟩,trivial⟩
  ·have k:hiB q=hiB (q/128)++[UInt8.ofNat (q%128+128)]:=by
    conv=>lhs;rw[hiB,Ai y,yQ]
    rfl
   have z:=yP q v
   have H:=ef (q%128) Aa
   have B:=bf q
   rw[k] at e
   (repeat'((conv=>whnf);first|refine NInt.as (((q%128:Nat):Int)) (z) ?_|refine NInt.as (((q%128+128:Nat):Int)) (H) ?_|refine NInt.as (((q/128:Nat):Int)) (B) ?_|(with_reducible refine V2 ?_)|refine Tk (_) ?_|refine Fv (by first|decide|omega|(simp only[D9,Ax];omega)) ?_|(refine E7 (fun g m=> ?_) (fun g m=> ?_)<;>try(exfalso;omega))));(all_goals(conv=>whnf))
   refine⟨(q/128,d++[UInt8.ofNat (q%128+128)]),⟨by show q/128≤_;omega,Ab,?_⟩,by show q/128<q;omega,?_⟩
   ·show hiB (q/128)++(d++[UInt8.ofNat (q%128+128)]).reverse=_
    rw[←e];simp
   ·exact leQ
theorem FF (h:La s=some a):a.length≤s.length+1:=by
 unfold La at h
 split at h
 ·rename_i e d
  split at h
  ·cases h
   rw[Ts d];exact Wg s
  ·cases h
 ·cases h
theorem Yu:∀(l:List Nat),(∀n∈l,n≤4294967295)→(l.flatMap (H5 true)).length≤5*l.length
 |[],_=>by simp
 |n::r,h=>by
  have e:=Wj true 4 n (by have:=h n Ab;omega)
  have g:=Yu r (fun m d=>h m (by simp[d]))
  rw[A4,En,D9];omega
theorem oD (s:List UInt8) (e:s.length≤4000000) (h:La s=none):aC 133 [sx s] (.tup [.d (By true []),iv 8]):=by
 have d:=Sv s e
 unfold oB at d
 rw[h] at d
 refine acQ 40 Tryz.func133 rfl rfl fun _ _ _=> ?_
 (repeat'((conv=>whnf);first|refine Ej ?_|refine Al d rfl ?_|exact zE))
theorem oE (s:List UInt8) (X:s.length≤4000000) (h:La s=some a):aC 133 [sx s] (.tup [.d (By true (jO a)),iv 0]):=by
 have q:=Sv s X
 unfold oB at q
 rw[h] at q
 obtain⟨L,I,k3⟩:=Q8 h
 obtain⟨x,y,r,rfl,Z,Q,Y⟩:=Lr L
 have N:(x::y::r)[0]?=some x:=rfl
 have J:(x::y::r)[1]?=some y:=rfl
 have u:40*x+y≤4294967295:=by
  by_cases M:x<2
  ·have:=Q M;omega
  ·omega
 refine acQ 40 Tryz.func133 rfl rfl fun _ _ _=> ?_
 have T:∀z:Int,z=((40*x+y:Nat):Int)→IntKind.u32.wrap z=((40*x+y:Nat):Int):=fun z U=>by rw[U,IntWalk.u32_in _ Aa]
 have H:((x::y::r).drop 2).take ((x::y::r).length-2)=r:=Ab
 have hL:=Wj true 4 (40*x+y) Aa
 have E:=FF h
 simp only[D9] at E
 (repeat'((conv=>whnf);first|refine Ee ?_|refine Al q rfl ?_|refine NIdx.tab (fun _=>rfl) N ?_|refine NIdx.tab (fun _=>rfl) J ?_|refine NInt.as (((40*x+y:Nat):Int)) (T _ Aa) ?_|refine zI ?_|refine zF ?_));(all_goals(conv=>whnf))
 refine bF 3 3 200 (H5 true (40*x+y)).length 1 5 (Fj (H5 true (40*x+y))) [1] 100 26 #[] Eg mixed rfl rfl rfl rfl Tryz.func166 rfl Ac rfl rfl rfl rfl rfl (fun vs v W fp0 A=>yR (40*x+y) u rfl vs v W fp0 A) (fun R=> ?_)
 (repeat'((conv=>whnf);first|refine NSl.tab (fun _=>rfl) 2 (x::y::r).length r H ?_|(with_reducible refine NApp.bytes0 ?_)));(all_goals(conv=>whnf))
 refine Fh (fun i:Nat=>i≤r.length) (fun i=>r.length-i) (fun i=>⟨[(6,.ptr 6 0),(7,.cl 166 [] [.ptr 6 0]),(29,.d (uM true r)),(30,iv r.length),(31,iv i)],[(6,[Hp 125 5 (H5 true (40*x+y)++(r.take i).flatMap (H5 true))])],[(125,((H5 true (40*x+y)++(r.take i).flatMap (H5 true)).length,1,5))]⟩) 0 Ab (by rw[List.take_zero,List.flatMap_nil,Am];exact leQ) ?_
 intro i hi
 by_cases B:i<r.length
 ·obtain⟨m,k⟩:∃n,r[i]?=some n:=⟨_,Ev B⟩
  have F:=I m (by simp[F9 k])
  have V:=Wj true 4 m Aa
  have g:=Yu (r.take i) (fun n O=>I n (by simp[List.mem_of_mem_take O]))
  rw[Ec] at g
  have K:(H5 true (40*x+y)++(r.take i).flatMap (H5 true)).length≤21000000:=by rw[En];omega
  have e:H5 true (40*x+y)++(r.take (i+1)).flatMap (H5 true)=H5 true (40*x+y)++(r.take i).flatMap (H5 true)++H5 true m:=by
   rw[Tt k,Ct,Bt];simp
  (repeat'((conv=>whnf);first|refine NIdx.tab (fun _=>rfl) k ?_|(refine E7 (fun j d=> ?_) (fun j d=> ?_)<;>try(exfalso;omega))));(all_goals(conv=>whnf))
  refine bF 3 3 200 (H5 true m).length 1 5 (Fj (H5 true m)) [1] 100 26 #[] Eg mixed rfl rfl rfl rfl Tryz.func166 rfl Ac rfl rfl rfl rfl rfl (fun vs v W fp0 A=>yR m F rfl vs v W fp0 A) (fun R=> ?_)
  (repeat'((conv=>whnf);first|refine zI ?_|(with_reducible refine NApp.bytes ?_)));(all_goals(conv=>whnf))
  refine⟨i+1,Aa,Aa,?_⟩
  rw[e]
  exact leQ
 ·obtain rfl:i=r.length:=by omega
  rw[Bv]
  (repeat'((conv=>whnf);(refine E7 (fun j d=> ?_) (fun j d=> ?_)<;>try(exfalso;omega))));(all_goals(conv=>whnf))
  all_goals exact zE
  all_goals rfl
theorem U2 (s:List UInt8) (d:s.length≤4000000):aC 133 [sx s] (.tup [.d (By true (Gs s)),iv (FA s)]):=by
 unfold Gs FA
 cases h:La s with
 |some a=>exact oE s d h
 |none=>exact oD s d h
theorem yS (h:¬n<10):(Lib.decDigits n).length=(Lib.decDigits (n/10)).length+1:=by
 rw[Lib.decDigits,D4 h];simp
theorem VX (n:Nat):1≤(Lib.decDigits n).length:=by
 rw[Lib.decDigits];split<;>simp
theorem oF:∀(n m:Nat),m≤n→(Lib.decDigits m).length≤(Lib.decDigits n).length:=by
 intro n
 induction n using Nat.strongRecOn with
 |_ n ih=>
  intro m h
  by_cases d:m<10
  ·rw[Lib.decDigits_one d];exact VX n
  ·have:=ih (n/10) Aa (m/10) Aa
   grind [yS]
theorem jR (n:Nat):(Lib.decDigits n).length≤(Lib.decDigits (n/10)).length+1:=by
 grind [Lib.decDigits_one,yS]
theorem bM:∀(n:Nat) (l:Bool),(Lib.decDigits n).length≤3*(H5 l n).length:=by
 intro n
 induction n using Nat.strongRecOn with
 |_ n ih=>
  intro l
  have e:=jR n
  have g:=jR (n/10)
  have j:=jR (n/10/10)
  by_cases h:n<128
  ·grind [Jt,List.length_singleton,Lib.decDigits,Lib.decDigits_one]
  ·have d:=ih (n/128) Aa false
   have k:=oF (n/128) (n/10/10/10) Aa
   rw[Ow l h,En,Cc];omega
theorem oG:∀r:List Nat,(Jc r).length≤4*(r.flatMap (H5 true)).length
 |[]=>by simp[Jc]
 |[n]=>by have:=bM n true;grind [Jc]
 |n::m::r=>by
  have e:=bM n true
  have d:=oG (m::r)
  have g:1≤(H5 true n).length:=by
   cases h:H5 true n with
   |nil=>exact Bg h (VT _ _)
   |cons _ _=>simp
  rw[A4,Jc]
  simp only[En,D9] at d⊢
  omega
theorem bN (h:H7 s=true):s.length≤4*(Gs s).length+4:=by
 unfold H7 at h
 unfold Gs
 cases d:La s with
 |none=>rw[d] at h;cases h
 |some a=>
  obtain⟨e,m,k3⟩:=Q8 d
  obtain⟨x,y,r,rfl,g,-⟩:=Lr e
  rw[←k3]
  have u:(Lib.decDigits x).length=1:=by rw[Lib.decDigits_one Aa];simp
  have j:=oF (40*x+y) y Aa
  have v:=bM (40*x+y) true
  have k:=oG r
  show _≤4*(H5 true (40*x+y)++r.flatMap (H5 true)).length+4
  rw[Jc,En,En,D9]
  cases r with
  |nil=>grind [Jc,List.length_nil]
  |cons z q=>
   grind [Jc,En,D9]
theorem gF (l:Bool):∀(k n:Nat),n<128^(k+1)→(H5 l n).length≤k+1:=by
 intro k
 induction k generalizing l with
 |zero=>grind [Jt]
 |succ k d=>
  grind [Jt,Nat.pow_succ,Ow,En,List.length_singleton]
theorem Wk:∀(l:List Nat),(∀n∈l,n≤4294967295)→(l.flatMap (H5 true)).length≤5*l.length
 |[],_=>by simp
 |n::r,h=>by
  have e:=gF true 4 n (by have:=h n Ab;omega)
  have g:=Wk r (fun m d=>h m (by simp[d]))
  rw[A4,En,D9];omega
theorem uQ (h:La s=some a):a.length≤s.length+1:=by
 grind [La,Ts,Wg]
inductive S where
 |mk (at' stop c n:Nat) (k:Bool) (b:List UInt8) (ks:List S)
def S.stop:S→Nat
 | .mk _ stop _ _ _ _ _=>stop
mutual
def oH (t:Bool):S→List D
 | .mk _ _ c n k b ks=>[.v (.int .i64 c),.v (.int .i64 n),.v (.bool k),By t b,.sl t ks.length 5 (P4 t ks)]
def P4 (t:Bool):List S→List D
 |[]=>[]
 |s::r=>oH t s++P4 t r
end
mutual
def yT (t:Bool):S→List D
 | .mk a e c n k b ks=>[.v (.int .i64 a),.v (.int .i64 e),.v (.int .i64 c),.v (.int .i64 n),.v (.bool k),By t b,.sl t ks.length 5 (P4 t ks),.sl t ks.length 8 (Sw t ks)]
def Sw (t:Bool):List S→List D
 |[]=>[]
 |s::r=>yT t s++Sw t r
end
theorem FG (t:Bool) (l:List S):P4 t l=l.flatMap (oH t):=by
 induction l with
 |nil=>rw[P4];rfl
 |cons s r d=>rw[P4,d,A4]
theorem FH (t:Bool) (l:List S):Sw t l=l.flatMap (yT t):=by
 induction l with
 |nil=>rw[Sw];rfl
 |cons s r d=>rw[Sw,d,A4]
structure SR where
 l:List S
 code:Nat
 off:Nat
variable {r:SR}
def SR.bad (code off:Nat):SR:=⟨[],code,off⟩
def bO (x:S) (r:SR):SR:=if r.code=0 then⟨x::r.l,0,0⟩ else⟨[],r.code,r.off⟩
theorem Wl {x:S} (h:r.code=0):bO x r=⟨x::r.l,0,0⟩:=Aj h
theorem Tw {x:S} (h:r.code≠0):bO x r=⟨[],r.code,r.off⟩:=Ai h
def Mj (rd:Nat→SR) (en:Nat):Nat→Nat→SR
 |0,_=>⟨[],0,0⟩
 |f+1,at'=>if at'<en then
   match rd at' with
   |⟨s::_,0,_⟩=>bO s (Mj rd en f s.stop)
   |r=>⟨[],r.code,r.off⟩
  else⟨[],0,0⟩
theorem Qk {rd:Nat→SR} {s:S} (h:at'<en) (d:rd at'=⟨[s],0,0⟩):Mj rd en (f+1) at'=bO s (Mj rd en f s.stop):=by
 rw[Mj,Aj h,d];rfl
theorem Sx {rd:Nat→SR} (h:at'<en) (d:(rd at').code≠0):Mj rd en (f+1) at'=⟨[],(rd at').code,(rd at').off⟩:=by
 rw[Mj,Aj h]
 grind
theorem Mx {rd:Nat→SR} (h:¬at'<en):Mj rd en f at'=⟨[],0,0⟩:=by
 cases f with
 |zero=>rfl
 |succ f=>rw[Mj,Ai h]
def Ql (b:List UInt8) (kids:Nat→Nat→SR) (at' en:Nat) (h:Hd):SR:=
 if h.code≠0 then .bad h.code (at'+h.off)
 else if en-at'<h.size+h.len then .bad 1 en
 else if h.k=false then⟨[.mk at' (at'+h.size+h.len) h.c h.n false ((b.drop (at'+h.size)).take h.len) []],0,0⟩
 else if(kids (at'+h.size) (at'+h.size+h.len)).code≠0 then .bad (kids (at'+h.size) (at'+h.size+h.len)).code (kids (at'+h.size) (at'+h.size+h.len)).off
 else⟨[.mk at' (at'+h.size+h.len) h.c h.n true [] (kids (at'+h.size) (at'+h.size+h.len)).l],0,0⟩
def Ij (rd:Nat→Nat→SR) (at' en:Nat):SR:=Mj (fun p=>rd p en) en (en-at') at'
def Gh (b:List UInt8):Nat→Nat→Nat→SR
 |0,at',_=> .bad 5 at'
 |d+1,at',en=>Ql b (Ij (Gh b d)) at' en (rhS ((b.drop at').take (en-at')))
def Rds (rd:Nat→SR) (en:Nat):Prop:=∀p,p≤en→((rd p).code=0→∃s:S,rd p=⟨[s],0,0⟩∧p+2≤s.stop∧s.stop≤en)∧((rd p).code≠0→(rd p).off≤en∧(rd p).l=[])
theorem uR {rd:Nat→SR} (h:Rds rd en):∀(f g at':Nat),en-at'≤f→f≤g→Mj rd en g at'=Mj rd en f at':=by
 intro f
 induction f with
 |zero=>
  grind [Mx]
 |succ f q=>
  intro g at' k y
  obtain⟨g,rfl⟩:∃j,g=j+1:=⟨g-1,Aa⟩
  by_cases d:at'<en
  ·by_cases e:(rd at').code≠0
   ·rw[Sx d e,Sx d e]
   ·obtain⟨s,v,u,m⟩:=(h at' Aa).1 (As.1 e)
    grind [Qk]
  ·rw[Mx d,Mx d]
theorem FI {rd:Nat→Nat→SR} (h:¬at'<en):Ij rd at' en=⟨[],0,0⟩:=Mx h
theorem FJ {rd:Nat→Nat→SR} (h:at'<en) (d:(rd at' en).code≠0):Ij rd at' en=⟨[],(rd at' en).code,(rd at' en).off⟩:=by
 obtain⟨f,e⟩:∃f,en-at'=f+1:=⟨en-at'-1,Aa⟩
 grind [Ij,Sx]
theorem uS {rd:Nat→Nat→SR} {s:S} (d:Rds (fun p=>rd p en) en) (h:at'<en) (g:rd at' en=⟨[s],0,0⟩) (j:at'<s.stop):Ij rd at' en=bO s (Ij rd s.stop en):=by
 obtain⟨f,k⟩:∃f,en-at'=f+1:=⟨en-at'-1,Aa⟩
 have e:Mj (fun p=>rd p en) en f s.stop=Ij rd s.stop en:=uR d _ _ _ (At _) Aa
 grind [Ij,Qk]
theorem NB {rd:Nat→SR} (g:Rds rd en):∀(f at':Nat),((Mj rd en f at').code=0→Mj rd en f at'=⟨(Mj rd en f at').l,0,0⟩)∧(Mj rd en f at').off≤en:=by
 intro f
 induction f with
 |zero=>intro at';exact⟨fun _=>rfl,Nat.zero_le _⟩
 |succ f q=>
  intro at'
  by_cases e:at'<en
  ·by_cases d:(rd at').code≠0
   ·rw[Sx e d]
    exact⟨fun h=>Bg h d,((g at' Aa).2 d).1⟩
   ·obtain⟨s,j,u,m⟩:=(g at' Aa).1 (As.1 d)
    rw[Qk e j]
    by_cases k:(Mj rd en f s.stop).code=0
    ·rw[Wl k]
     exact⟨fun _=>rfl,Nat.zero_le _⟩
    grind [Tw,absurd]
  ·rw[Mx e]
   exact⟨fun _=>rfl,Nat.zero_le _⟩
theorem Ls (b:List UInt8):∀(d en:Nat),en≤b.length→Rds (fun p=>Gh b d p en) en:=by
 intro d
 induction d with
 |zero=>
  intro en k p u
  exact⟨fun h=>by simp[Gh,SR.bad] at h,fun _=>⟨by simp[Gh,SR.bad];exact u,rfl⟩⟩
 |succ d z=>
  intro en k p u
  have q:=Kj ((b.drop p).take (en-p))
  have g:((b.drop p).take (en-p)).length=en-p:=Af
  rw[g] at q
  show((Gh b (d+1) p en).code=0→_)∧_
  simp only[Gh]
  generalize rhS ((b.drop p).take (en-p))=h at q⊢
  obtain⟨A,M,K,F,H,I,L⟩:=q
  unfold Ql
  by_cases j:h.code≠0
  ·rw[Aj j]
   exact⟨fun e=>Bg e j,fun _=>⟨by simp only[SR.bad];omega,rfl⟩⟩
  rw[Ai j]
  by_cases v:en-p<h.size+h.len
  ·rw[Aj v]
   exact⟨fun e=>by simp[SR.bad] at e,fun _=>⟨by simp[SR.bad],rfl⟩⟩
  rw[Ai v]
  have B:=A (As.1 j)
  by_cases k3:h.k=false
  ·rw[Aj k3]
   exact⟨fun _=>⟨_,rfl,by simp only[S.stop];omega,by simp only[S.stop];omega⟩,fun e=>by simp at e⟩
  rw[Ai k3]
  have E:=z (p+h.size+h.len) Aa
  have y:=NB E (p+h.size+h.len-(p+h.size)) (p+h.size)
  by_cases m:(Ij (Gh b d) (p+h.size) (p+h.size+h.len)).code≠0
  ·rw[Aj m]
   have J:(Ij (Gh b d) (p+h.size) (p+h.size+h.len)).off≤p+h.size+h.len:=y.2
   exact⟨fun e=>Bg e m,fun _=>⟨by simp only[SR.bad];omega,rfl⟩⟩
  ·rw[Ai m]
   exact⟨fun _=>⟨_,rfl,by simp only[S.stop];omega,by simp only[S.stop];omega⟩,fun e=>by simp at e⟩
def oI:AV:= .agg [iv 0,iv 0,iv 0,iv 0,bv false,Ff,Ff,Ff]
def bg (x:S):AV:= .agg ((yT true x).map AV.d)
def trA (r:SR):AV:=match r with
 |⟨x::_,0,_⟩=> .tup [bg x,erA 0 0]
 |r=> .tup [oI,erA r.code r.off]
theorem uT (x:S):trA ⟨[x],0,0⟩= .tup [bg x,erA 0 0]:=rfl
theorem Wm (h:r.code≠0):trA r= .tup [oI,erA r.code r.off]:=by
 obtain⟨l,c,o⟩:=r
 cases c with
 |zero=>exact Bg rfl h
 |succ c=>cases l<;>rfl
theorem U3 (c o:Int):aC 185 [iv c,iv o] (.tup [oI,erA c o]):=by
 refine acQ 10 Tryz.func185 rfl rfl fun _ _ _=> ?_
 (all_goals(conv=>whnf))
 exact zE
abbrev bh:S→List D:=oH true
abbrev bi:S→List D:=yT true
theorem bP (h:p:=by first|rfl|(simp only[D8,AV.ren,AV.give,D.un,Ef,D7,D6,Ap,Am,Ak,Ea,Ep,Eo];first|done|rfl)):p:=h
theorem FK (b:List UInt8) (hb:b.length≤1000000000) (d at' en I J e sz v:Nat) (hd:d<1000) (h1:at'≤en) (h2:en≤b.length) (hsz:2≤sz) (h3:sz+e≤en-at')
 (hR:aC 159 [.d (By false ((b.drop at').take (en-at')))] (.tup [.agg [iv I,iv J,bv true,iv e,iv sz],erA 0 v]))
 (ih:∀(p q:Nat),p≤q→q≤b.length→aC 158 [.d (By false b),iv p,iv q,iv d] (trA (Gh b d p q))):
 aC 158 [.d (By false b),iv at',iv en,iv (d+1:Nat)] (trA (Ql b (Ij (Gh b d)) at' en ⟨I,J,true,e,sz,0,v⟩)):=by
 have R:=Ls b d (at'+sz+e) Aa
 have hF:(Ij (Gh b d) (at'+sz) (at'+sz+e)).code≠0→Ql b (Ij (Gh b d)) at' en ⟨I,J,true,e,sz,0,v⟩= .bad (Ij (Gh b d) (at'+sz) (at'+sz+e)).code (Ij (Gh b d) (at'+sz) (at'+sz+e)).off:=fun h=>by
  unfold Ql
  rw[Ai (fun x=>x rfl),Ai (show¬en-at'<sz+e by omega),Ai (fun x=>by cases x),Aj h]
 have hO:(Ij (Gh b d) (at'+sz) (at'+sz+e)).code=0→Ql b (Ij (Gh b d)) at' en ⟨I,J,true,e,sz,0,v⟩=⟨[.mk at' (at'+sz+e) I J true [] (Ij (Gh b d) (at'+sz) (at'+sz+e)).l],0,0⟩:=fun h=>by
  unfold Ql
  rw[Ai (fun x=>x rfl),Ai (show¬en-at'<sz+e by omega),Ai (fun x=>by cases x),Ai (fun x=>x h)]
 generalize Y:Ij (Gh b d) (at'+sz) (at'+sz+e)=K0 at hF hO
 refine acQ 125 Tryz.func158 rfl rfl fun _ _ _=> ?_
 (repeat'((conv=>whnf);first|refine Ee ?_|refine Al hR bP ?_|refine NSl.slice (at') (en) ?_|refine zI ?_|(refine E7 (fun y g=> ?_) (fun y g=> ?_)<;>try(exfalso;omega))));(all_goals(conv=>whnf))
 refine F2 [.b 14 6 1000 5 139,.b 14 7 1001 8 220] (fun z:Nat×List S=>z.1≤at'+sz+e∧z.2.length≤z.1∧(Ij (Gh b d) z.1 (at'+sz+e)).code=K0.code∧(K0.code≠0→(Ij (Gh b d) z.1 (at'+sz+e)).off=K0.off)∧(K0.code=0→K0.l=z.2++(Ij (Gh b d) z.1 (at'+sz+e)).l)) (fun z=>at'+sz+e-z.1)
  (fun z=>⟨[(0,.d (By false b)),(3,iv (d+1:Nat)),(8,.ptr 8 0),(9,.ptr 9 0),(13,iv z.1),(14,.ptr 14 0)],[(8,[iv 0,iv 0,iv 0,iv 0,bv false,Ff,Ff,Ff]),(9,[iv 0,iv 0]),(14,[iv at',iv (at'+sz+e:Nat),iv I,iv J,bv true,Ff,Fy 1000 5 139 bh z.2,Fy 1001 8 220 bi z.2])],[(1000,(z.2.length,5,139)),(1001,(z.2.length,8,220))]⟩) (at'+sz,[]) ⟨by simp only[];omega,Ab,by rw[Y],fun _=>by rw[Y],fun _=>by rw[Y];rfl⟩ leQ ?_
 ·rintro⟨p,A⟩ ⟨hp,N,B,O,M⟩
  simp only[] at hp N B O M
  by_cases V:p<at'+sz+e
  ·have j:=ih p (at'+sz+e) Aa Aa
   by_cases T:(Gh b d p (at'+sz+e)).code≠0
   ·rw[FJ V T] at B O
    have K:K0.code≠0:=by rw[←B];exact T
    rw[Wm T,show(Gh b d p (at'+sz+e)).code=K0.code from B,show(Gh b d p (at'+sz+e)).off=K0.off from O K] at j
    rw[hF K,Wm (show(SR.bad K0.code K0.off).code≠0 from K)]
    (repeat'((conv=>whnf);first|refine Al j bP ?_|refine NInt.as (((d:Nat):Int)) ((by rw[Bl _ Aa];omega)) ?_|refine zF ?_|(refine E7 (fun y g=> ?_) (fun y g=> ?_)<;>try(exfalso;omega))|(refine H2 (fun y g=> ?_) (fun y g=> ?_)<;>try(exfalso;omega))|exact zE))
   ·obtain⟨s,r1,Z,r3⟩:=(R p Aa).1 (As.1 T)
    obtain⟨a,q,c,n,k,E,u⟩:=s
    have Q:Gh b d p (at'+sz+e)=⟨[S.mk a q c n k E u],0,0⟩:=r1
    have r2':p+2≤q:=Z
    have r3':q≤at'+sz+e:=r3
    rw[Q,uT] at j
    have H:aC 158 [.d (By false b),iv p,iv (at'+sz+e:Nat),iv d] (.tup [.agg [iv a,iv q,iv c,iv n,bv k,.d (By true E),.d (.sl true u.length 5 (P4 true u)),.d (.sl true u.length 8 (Sw true u))],erA 0 0]):=j
    have L:=uS R V Q (show p<q by omega)
    have m:Ij (Gh b d) p (at'+sz+e)=bO (S.mk a q c n k E u) (Ij (Gh b d) q (at'+sz+e)):=L
    have F:(Ij (Gh b d) q (at'+sz+e)).code=K0.code:=by
     rw[←B,m]
     by_cases U:(Ij (Gh b d) q (at'+sz+e)).code=0
     ·rw[Wl U];exact U
     ·rw[Tw U]
    have X:K0.code≠0→(Ij (Gh b d) q (at'+sz+e)).off=K0.off:=fun h=>by
     rw[←O h,m,Tw (by rw[F];exact h)]
    have W:K0.code=0→K0.l=(A++[S.mk a q c n k E u])++(Ij (Gh b d) q (at'+sz+e)).l:=fun h=>by
     rw[M h,m,Wl (by rw[F];exact h)];simp
    clear L m r1 Z r3 j B O M
    (repeat'((conv=>whnf);first|refine Ee ?_|refine Al H bP ?_|refine NInt.as (((d:Nat):Int)) ((by rw[Bl _ Aa];omega)) ?_|refine E4 bh (S.mk a q c n k E u) ?_|refine E4 bi (S.mk a q c n k E u) ?_|(refine E7 (fun y g=> ?_) (fun y g=> ?_)<;>try(exfalso;omega))));(all_goals(conv=>whnf))
    refine⟨(q,A++[S.mk a q c n k E u]),⟨by simp only[];omega,by simp only[En,D9,Ax] at*;omega,F,X,W⟩,by simp only[];omega,?_⟩
    exact leQ
  ·rw[FI V] at B M
   have K:K0.code=0:=B.symm
   have h8:=M K
   rw[hO K,h8,Am]
   (repeat'((conv=>whnf);(refine E7 (fun y g=> ?_) (fun y g=> ?_)<;>try(exfalso;omega))));(all_goals(conv=>whnf))
   all_goals(refine E0 ?_;(repeat'(first|exact trivial|exact Er _|refine A1 ?_ ?_|exact rfl));(all_goals(conv=>whnf)))
   all_goals first|exact(FG true A).symm|exact(FH true A).symm
theorem Wn (h:p:=by first|rfl|(simp only[D8,AV.ren,AV.give,D.un,Ef,D7,D6,Ap,Am,Ak,Ea,Ep,Eo];first|done|rfl)):p:=h
theorem ND (b:List UInt8) (hb:b.length≤1000000000):∀(d at' en:Nat),d≤1000→at'≤en→en≤b.length→aC 158 [.d (By false b),iv at',iv en,iv d] (trA (Gh b d at' en)):=by
 intro d
 induction d with
 |zero=>
  intro at' en W M O
  refine acQ 125 Tryz.func158 rfl rfl fun _ _ _=> ?_
  (repeat'((conv=>whnf);first|refine Ej ?_|refine Al (U3 5 at') rfl ?_|exact zE))
 |succ d R=>
  intro at' en W M O
  have u:((b.drop at').take (en-at')).length=en-at':=Af
  have E:=V5 ((b.drop at').take (en-at')) Aa
  have L:=Kj ((b.drop at').take (en-at'))
  have hRd:=Ls b d
  rw[u] at L
  rw[Gh]
  generalize hh:rhS ((b.drop at').take (en-at'))=h at E L⊢
  obtain⟨Z,c2,c3,T,c5,c6,c7⟩:=L
  by_cases v:h.code=0
  ·have y:=Z v
   by_cases Q:en-at'<h.size+h.len
   ·rw[Ql,Ai Aa,Aj Q]
    refine acQ 125 Tryz.func158 rfl rfl fun _ _ _=> ?_
    (repeat'((conv=>whnf);first|refine Ee ?_|refine Al E Wn ?_|refine NSl.slice (at') (en) ?_|refine Al (U3 _ _) rfl ?_|refine zI ?_|(refine E7 (fun k g=> ?_) (fun k g=> ?_)<;>try(exfalso;omega))|(refine H2 (fun k g=> ?_) (fun k g=> ?_)<;>try(exfalso;omega))|exact zE))
    all_goals rfl
   ·obtain⟨z,B,N,j,sz,A,K⟩:=h
    have J:¬en-at'<sz+j:=Q
    have F:¬A≠0:=fun x=>x v
    have k0:A=0:=v
    have H:2≤sz:=y.1
    have c1b:sz≤en-at':=y.2.1
    have Y:j≤2147483647:=T
    have V:at'+sz+j-(at'+sz)=j:=Aa
    have m:aC 159 [.d (By false ((b.drop at').take (en-at')))] (.tup [.agg [iv z,iv B,bv N,iv j,iv sz],erA A K]):=E
    cases N with
    |false=>
     have U:=Gq ((b.drop (at'+sz)).take (at'+sz+j-(at'+sz))) (by rw[Ec];omega)
     have e:Ql b (Ij (Gh b d)) at' en ⟨z,B,false,j,sz,A,K⟩=⟨[.mk at' (at'+sz+j) z B false ((b.drop (at'+sz)).take (at'+sz+j-(at'+sz))) []],0,0⟩:=by
      rw[V];unfold Ql
      rw[Ai F,Ai J,Aj rfl]
     rw[e]
     refine acQ 125 Tryz.func158 rfl rfl fun _ _ _=> ?_
     (repeat'((conv=>whnf);first|refine zY ?_|refine Al m Wn ?_|refine NSl.slice (at') (en) ?_|refine NSl.slice (at'+sz) (at'+sz+j) ?_|refine Al U Wn ?_|refine zI ?_|(refine E7 (fun k g=> ?_) (fun k g=> ?_)<;>try(exfalso;omega))|(refine H2 (fun k g=> ?_) (fun k g=> ?_)<;>try(exfalso;omega))|exact zE))
     all_goals rfl
    |true=>
     subst k0
     exact FK b hb d at' en z B j sz K Aa M O H Aa m (fun p q X I=>R p q Aa X I)
  ·have e:Ql b (Ij (Gh b d)) at' en h= .bad h.code (at'+h.off):=by rw[Ql,Aj v]
   rw[e,Wm v]
   refine acQ 125 Tryz.func158 rfl rfl fun _ _ _=> ?_
   (repeat'((conv=>whnf);first|refine Ee ?_|refine Al E Wn ?_|refine NSl.slice (at') (en) ?_|refine Al (U3 _ _) rfl ?_|refine zI ?_|(refine H2 (fun k g=> ?_) (fun k g=> ?_)<;>try(exfalso;omega))|exact zE))
   all_goals rfl
def jS (n:Nat):SR→SR
 |⟨s::_,0,_⟩=>if s.stop<n then .bad 2 s.stop else⟨[s],0,0⟩
 |r=> .bad r.code r.off
def Jk (b:List UInt8):SR:=jS b.length (Gh b 16 0 b.length)
theorem Nj {s:S} (h:s.stop<n):jS n ⟨[s],0,0⟩= .bad 2 s.stop:=Aj h
theorem Qm {s:S} (h:¬s.stop<n):jS n ⟨[s],0,0⟩=⟨[s],0,0⟩:=Ai h
theorem Oy {o:Nat}:jS n ⟨[],c,o⟩= .bad c o:=by cases c<;>rfl
theorem Sy (h:p:=by first|rfl|(simp only[D8,AV.ren,AV.give,D.un,Ef,D7,D6,Ap,Am,Ak,Ea,Ep,Eo];first|done|rfl)):p:=h
theorem FL (b:List UInt8) (E:b.length≤1000000000):aC 120 [.d (By false b)] (trA (Jk b)):=by
 have m:=ND b E 16 0 b.length Aa Aa Aa
 have u:=Ls b 16 b.length Aa 0 Aa
 dsimp only at u
 unfold Jk
 generalize Gh b 16 0 b.length=r at m u
 by_cases h:r.code=0
 ·obtain⟨s,rfl,z,B⟩:=u.1 h
  obtain⟨a,q,c,n,k,v,g⟩:=s
  simp only[S.stop] at z B
  rw[uT] at m
  have e:aC 158 [.d (By false b),iv 0,iv b.length,iv 16] (.tup [.agg [iv a,iv q,iv c,iv n,bv k,.d (By true v),.d (.sl true g.length 5 (P4 true g)),.d (.sl true g.length 8 (Sw true g))],erA 0 0]):=m
  by_cases y:q<b.length
  ·rw[Nj (show(S.mk a q c n k v g).stop<b.length from y)]
   refine acQ 29 Tryz.func120 rfl rfl fun _ _ _=> ?_
   (repeat'((conv=>whnf);first|refine Ej ?_|refine Al e Sy ?_|refine zF ?_|(refine E7 (fun j d=> ?_) (fun j d=> ?_)<;>try(exfalso;omega))|exact zE))
  ·rw[Qm (show¬(S.mk a q c n k v g).stop<b.length from y)]
   refine acQ 29 Tryz.func120 rfl rfl fun _ _ _=> ?_
   (repeat'((conv=>whnf);first|refine Ej ?_|refine Al e Sy ?_|refine zF ?_|(refine E7 (fun j d=> ?_) (fun j d=> ?_)<;>try(exfalso;omega))|exact zE))
 ·rw[Wm h] at m
  obtain⟨l,c,o⟩:=r
  have A:l=[]:=(u.2 h).2
  subst A
  have F:¬c=0:=h
  have e:aC 158 [.d (By false b),iv 0,iv b.length,iv 16] (.tup [oI,erA c o]):=m
  rw[Oy]
  refine acQ 29 Tryz.func120 rfl rfl fun _ _ _=> ?_
  (repeat'((conv=>whnf);first|refine Ee ?_|refine Al e Sy ?_|refine zF ?_|(refine E7 (fun j d=> ?_) (fun j d=> ?_)<;>try(exfalso;omega))|exact zE))
theorem gG (b:List UInt8) (A:b.length≤1000000000):Es Tryz.prog 68 [.d (By false b)] (fun r=>r= .tup [.agg ((match Jk b with
 |⟨s::_,0,_⟩=>oH true s
 |_=>[.v (.int .i64 0),.v (.int .i64 0),.v (.bool false),.v (.slice none 0 0),.v (.slice none 0 0)]).map AV.d),erA (Jk b).code (Jk b).off]):=by
 have e:=FL b A
 have g:=Ls b 16 b.length Aa 0 Aa
 dsimp only at g
 have u:((Jk b).code=0→∃s,Jk b=⟨[s],0,0⟩)∧((Jk b).code≠0→(Jk b).l=[]):=by
  unfold Jk
  generalize Gh b 16 0 b.length=r at g
  by_cases h:r.code=0
  ·obtain⟨s,rfl,B,E⟩:=g.1 h
   by_cases v:s.stop<b.length
   ·rw[Nj v];simp[SR.bad]
   ·rw[Qm v];simp
  ·obtain⟨l,c,o⟩:=r
   have m:l=[]:=(g.2 h).2
   subst m
   have y:¬c=0:=h
   rw[Oy];simp[SR.bad,y]
 generalize Jk b=r at e u⊢
 by_cases h:r.code=0
 ·obtain⟨s,rfl⟩:=u.1 h
  obtain⟨a,q,c,n,k,z,j⟩:=s
  rw[uT] at e
  have d:aC 120 [.d (By false b)] (.tup [.agg [iv a,iv q,iv c,iv n,bv k,.d (By true z),.d (.sl true j.length 5 (P4 true j)),.d (.sl true j.length 8 (Sw true j))],erA 0 0]):=e
  refine acQ 14 Tryz.func68 rfl rfl fun _ _ _=> ?_
  (repeat'((conv=>whnf);first|refine Al d Sy ?_|refine zF ?_|exact zE))
 ·rw[Wm h] at e
  obtain⟨l,c,o⟩:=r
  have m:l=[]:=u.2 h
  subst m
  have y:¬c=0:=h
  have d:aC 120 [.d (By false b)] (.tup [oI,erA c o]):=e
  refine acQ 14 Tryz.func68 rfl rfl fun _ _ _=> ?_
  (repeat'((conv=>whnf);first|refine Al d Sy ?_|refine zF ?_|exact zE))
inductive Tr where
 |mk (c n:Nat) (k:Bool) (b:List UInt8) (ks:List Tr)
structure TR where
 l:List Tr
 size:Nat
 code:Nat
 off:Nat
variable {rd:List UInt8→TR}
def TR.bad (code off:Nat):TR:=⟨[],0,code,off⟩
def gH (sz:Nat) (x:Tr) (r:TR):TR:=if r.code=0 then⟨x::r.l,0,0,0⟩ else .bad r.code (sz+r.off)
theorem bQ {x:Tr} {r:TR} (h:r.code=0):gH sz x r=⟨x::r.l,0,0,0⟩:=Aj h
theorem Xx {x:Tr} {r:TR} (h:r.code≠0):gH sz x r= .bad r.code (sz+r.off):=Ai h
def kT (rd:List UInt8→TR):Nat→List UInt8→TR
 |0,_=>⟨[],0,0,0⟩
 |f+1,l=>if l.length=0 then⟨[],0,0,0⟩ else match rd l with
  |⟨t::_,sz,0,_⟩=>gH sz t (kT rd f (l.drop sz))
  |r=> .bad r.code r.off
def Jl (rd:List UInt8→TR) (l:List UInt8):TR:=kT rd l.length l
theorem bR (h:l.length=0):kT rd f l=⟨[],0,0,0⟩:=by
 cases f with
 |zero=>rfl
 |succ f=>rw[kT,Aj h]
theorem jT {t:Tr} (h:l.length≠0) (d:rd l=⟨[t],sz,0,0⟩):kT rd (f+1) l=gH sz t (kT rd f (l.drop sz)):=by
 rw[kT,Ai h,d];rfl
theorem yU (h:l.length≠0) (d:(rd l).code≠0):kT rd (f+1) l= .bad (rd l).code (rd l).off:=by
 rw[kT,Ai h]
 grind
def RdT (rd:List UInt8→TR):Prop:=∀l,((rd l).code=0→∃t sz,rd l=⟨[t],sz,0,0⟩∧2≤sz∧sz≤l.length)∧((rd l).code≠0→(rd l).off≤l.length∧(rd l).l=[]∧(rd l).size=0∧(rd l).code≤9)
theorem VY (m:RdT rd):∀(f g:Nat) (l:List UInt8),l.length≤f→f≤g→kT rd g l=kT rd f l:=by
 intro f
 induction f with
 |zero=>grind [bR]
 |succ f k=>
  intro g l q y
  obtain⟨g,rfl⟩:∃j,g=j+1:=⟨g-1,Aa⟩
  by_cases d:l.length=0
  ·rw[bR d,bR d]
  ·by_cases e:(rd l).code=0
   ·obtain⟨t,sz,h,v,u⟩:=(m l).1 e
    rw[jT d h,jT d h,k g _ (by rw[Eh];omega) Aa]
   ·rw[yU d e,yU d e]
theorem gI (h:l.length=0):Jl rd l=⟨[],0,0,0⟩:=bR h
theorem gJ (h:l.length≠0) (d:(rd l).code≠0):Jl rd l= .bad (rd l).code (rd l).off:=by
 obtain⟨f,e⟩:∃f,l.length=f+1:=⟨l.length-1,Aa⟩
 rw[Jl,e];exact yU h d
theorem bS (g:RdT rd) {t:Tr} (h:l.length≠0) (e:rd l=⟨[t],sz,0,0⟩):Jl rd l=gH sz t (Jl rd (l.drop sz)):=by
 obtain⟨f,m⟩:∃f,l.length=f+1:=⟨l.length-1,Aa⟩
 have k:(rd l).code=0:=by rw[e]
 obtain⟨v,d,j,y,u⟩:=(g l).1 k
 have q:d=sz:=by rw[e] at j;cases j;rfl
 subst q
 rw[Jl,m,jT h e,Jl,VY g (l.drop d).length f _ (At _) (by rw[Eh];omega)]
theorem oJ (e:RdT rd):∀(f:Nat) (l:List UInt8),l.length≤f→((Jl rd l).code=0→Jl rd l=⟨(Jl rd l).l,0,0,0⟩)∧((Jl rd l).code≠0→(Jl rd l).off≤l.length∧(Jl rd l).code≤9):=by
 intro f
 induction f with
 |zero=>intro l h;rw[gI Aa];grind
 |succ f j=>
  intro l h
  by_cases g:l.length=0
  ·grind
  ·by_cases d:(rd l).code=0
   ·obtain⟨t,sz,k,v,u⟩:=(e l).1 d
    have q:=j (l.drop sz) (by rw[Eh];omega)
    rw[bS e g k]
    by_cases m:(Jl rd (l.drop sz)).code=0
    ·rw[bQ m];grind
    grind [Xx,Eh,absurd,TR.bad]
   ·rw[gJ g d]
    exact⟨fun h=>Bg h d,fun _=>⟨((e l).2 d).1,((e l).2 d).2.2.2⟩⟩
def rTH (rd:List UInt8→TR) (l:List UInt8) (h:Hd):TR:=
 if h.code≠0 then .bad h.code h.off
 else if l.length<h.size+h.len then .bad 1 l.length
 else if h.k=false then⟨[.mk h.c h.n false ((l.drop h.size).take h.len) []],h.size+h.len,0,0⟩
 else if(Jl rd ((l.drop h.size).take h.len)).code≠0 then .bad (Jl rd ((l.drop h.size).take h.len)).code (h.size+(Jl rd ((l.drop h.size).take h.len)).off)
 else⟨[.mk h.c h.n true [] (Jl rd ((l.drop h.size).take h.len)).l],h.size+h.len,0,0⟩
def rT:Nat→List UInt8→TR
 |0,_=> .bad 5 0
 |d+1,l=>rTH (rT d) l (rhS l)
theorem yV:∀d,RdT (rT d):=by
 intro d
 induction d with
 |zero=>intro l;grind [rT,TR.bad]
 |succ d u=>
  intro l
  have m:=Kj l
  simp only[rT]
  generalize rhS l=h at m⊢
  obtain⟨y,I,F,A,B,E,H⟩:=m
  unfold rTH
  by_cases e:h.code≠0
  ·rw[Aj e]
   exact⟨fun j=>Bg j e,fun _=>⟨by simp only[TR.bad];omega,rfl,rfl,by simp only[TR.bad];omega⟩⟩
  rw[Ai e]
  have z:=y (As.1 e)
  by_cases q:l.length<h.size+h.len
  ·rw[Aj q]
   grind [TR.bad]
  rw[Ai q]
  by_cases k3:h.k=false
  ·grind
  rw[Ai k3]
  have k:=oJ u _ ((l.drop h.size).take h.len) (At _)
  have v:((l.drop h.size).take h.len).length=h.len:=by rw[Ec,Eh];omega
  rw[v] at k
  by_cases g:(Jl (rT d) ((l.drop h.size).take h.len)).code≠0
  ·rw[Aj g]
   have:=k.2 g
   exact⟨fun j=>Bg j g,fun _=>⟨by simp only[TR.bad];omega,rfl,rfl,this.2⟩⟩
  grind
def jU (n:Nat):TR→TR
 |⟨t::_,sz,0,_⟩=>if sz<n then .bad 2 sz else⟨[t],sz,0,0⟩
 |r=> .bad r.code r.off
theorem Yv {t:Tr} (h:sz<n):jU n ⟨[t],sz,0,0⟩= .bad 2 sz:=Aj h
theorem gK {t:Tr} (h:¬sz<n):jU n ⟨[t],sz,0,0⟩=⟨[t],sz,0,0⟩:=Ai h
theorem bT {o s:Nat}:jU n ⟨[],s,c,o⟩= .bad c o:=by cases c<;>rfl
def Na (d:Nat) (b:List UInt8):TR:=jU b.length (rT d b)
theorem eN (d:Nat) (b:List UInt8):((Na d b).code=0→∃t,Na d b=⟨[t],b.length,0,0⟩∧rT d b=⟨[t],b.length,0,0⟩)∧((Na d b).code≠0→(Na d b).l=[]∧(Na d b).size=0∧(Na d b).off≤b.length):=by
 have j:=yV d b
 unfold Na
 generalize rT d b=r at j⊢
 by_cases h:r.code=0
 ·obtain⟨t,sz,rfl,k,e⟩:=j.1 h
  by_cases g:sz<b.length
  ·rw[Yv g];exact⟨fun h=>by simp[TR.bad] at h,fun _=>⟨rfl,rfl,e⟩⟩
  ·have:sz=b.length:=by omega
   subst this
   rw[gK g];grind
 ·obtain⟨l,s,c,o⟩:=r
  obtain⟨k,e,g,q⟩:=j.2 h
  have e:l=[]:=e
  subst e
  have m:¬c=0:=h
  rw[bT]
  exact⟨fun h=>Bg h m,fun _=>⟨rfl,rfl,k⟩⟩
def Tr.zero:Tr:= .mk 0 0 false [] []
def NE (b:List UInt8):Bool:=(Na 16 b).code==0
mutual
def Tr.enc:Tr→List UInt8
 | .mk c n k b ks=>eM (UInt8.ofNat (idN c k n)) (b++N8 ks)
def N8:List Tr→List UInt8
 |[]=>[]
 |s::r=>s.enc++N8 r
end
mutual
def Tr.ok:Tr→Prop
 | .mk c n _ _ ks=>c≤3∧n≤30∧Xy ks
def Xy:List Tr→Prop
 |[]=>True
 |s::r=>s.ok∧Xy r
end
theorem L9 (x:UInt8) (c:List UInt8):(eM x c).length=1+(N7 c.length).length+c.length:=by
 unfold eM;simp;omega
theorem Ma (s:List UInt8):(Gs s).length≤5*(s.length+1):=by
 unfold Gs
 cases h:La s with
 |none=>simp
 |some a=>
  obtain⟨j,k,k3⟩:=Q8 h
  have d:=uQ h
  obtain⟨x,y,r,rfl,z,g,v⟩:=Lr j
  have q:40*x+y≤4294967295:=by
   by_cases m:x<2
   ·have:=g m;omega
   ·omega
  have u:=gF true 4 (40*x+y) Aa
  have A:=Wk r (fun n e=>k n (by simp[e]))
  simp only[D9] at d
  simp only[jO,En];omega
theorem NF (n:Nat):beV (Rz n)=n:=by
 induction n using Nat.strongRecOn with
 |_ n ih=>
  grind [I8,beV,Qi,aT,UInt8.toNat_ofNat']
theorem VZ (n:Nat) (m:n≤2147483647) (rest:List UInt8):rlS (N7 n++rest)=(n,(N7 n).length,0,0):=by
 have d:=St 3 n Aa
 by_cases h:n<128
 ·rw[N7,Aj h,I8 Aa,List.singleton_append,Xs (by rw[B6];omega),B6,Nat.mod_eq_of_lt Aa]
  rfl
 ·obtain⟨y,s,e,q⟩:=fU 3 n Aa Aa
  have j:beV (y::s)=n:=by rw[←e,NF]
  rw[e] at d
  rw[D9] at d
  have k:(UInt8.ofNat (128+(y::s).length)).toNat=s.length+1+128:=by rw[B6,D9];omega
  have g:(y::(s++rest)).take (s.length+1)=y::s:=Ab
  rw[N7,Ai h,e,Ak,Ak,uB k Aa Aa Ab (by rw[g,j];omega),g,j]
  rfl
theorem WA (h:(rlS l).2.2.1=0):l.take (rlS l).2.1=N7 (rlS l).1:=by
 cases l with
 |nil=>simp[rlS] at h
 |cons x r=>
  have u:=x.toNat_lt
  by_cases e:x.toNat<128
  ·rw[Xs e]
   show(x::r).take 1=N7 x.toNat
   rw[N7,Aj e,I8 Aa,Q7];rfl
  by_cases q:x.toNat=128∨x.toNat>132
  ·grind [nI]
  by_cases g:r.length<x.toNat-128
  ·grind [fT]
  cases r with
  |nil=>simp at g;omega
  |cons y s=>
   rw[D9] at g
   obtain⟨k,m⟩:∃k,x.toNat=k+128:=⟨x.toNat-128,Aa⟩
   by_cases d:y.toNat=0∨beV ((y::s).take k)<128∨beV ((y::s).take k)>2147483647
   ·rw[xV m Aa Aa Aa d] at h;cases h
   ·rw[uB m Aa Aa Aa d]
    obtain⟨j,rfl⟩:∃j,k=j+1:=⟨k-1,Aa⟩
    rw[List.take_succ_cons] at d⊢
    show(x::y::s).take (j+1+1)=N7 (beV (y::s.take j))
    rw[List.take_succ_cons,List.take_succ_cons,N7,Ai Aa,(LU y Aa j _ (by rw[Ec];omega)).1,D9,Ec,show 128+(min j s.length+1)=x.toNat by omega,Q7]
theorem eg (c n:Nat) (k:Bool):idN c k n=c*64+n+(if k then 32 else 0):=by unfold idN;cases k<;>simp<;>omega
theorem gL (k:Bool) (e:c≤3) (d:n≤30):(UInt8.ofNat (idN c k n)).toNat=c*64+n+(if k then 32 else 0):=by
 grind [LZ,UInt8.toNat_ofNat',Nat.mod_eq_of_lt,eg]
theorem WB {k:Bool} (l rest:List UInt8) (e:c≤3) (g:n≤30) (h:l.length≤2147483647):rhS (Ei c n k l++rest)=⟨c,n,k,l.length,(N7 l.length).length+1,0,0⟩:=by
 have d:=gL k e g
 unfold Ei eM
 generalize UInt8.ofNat (idN c k n)=x at d
 rw[Ak,Bt,rhS,VZ _ h]
 cases k
 ·simp only[Ck,ite_false,Nat.add_zero] at d
  rw[Ai Aa,Aj rfl,show x.toNat/64=c by omega,show x.toNat%32=n by omega,show(x.toNat/32%2==1)=false by rw[An];omega]
 ·simp only[ite_true] at d
  rw[Ai Aa,Aj rfl,show x.toNat/64=c by omega,show x.toNat%32=n by omega,show(x.toNat/32%2==1)=true by rw[A9];omega]
theorem yW (h:(rhS l).code=0) (d:(rhS l).size+(rhS l).len≤l.length):l.take ((rhS l).size+(rhS l).len)=Ei (rhS l).c (rhS l).n (rhS l).k ((l.drop (rhS l).size).take (rhS l).len):=by
 cases l with
 |nil=>simp[rhS,Hd.bad] at h
 |cons x r=>
  have m:=x.toNat_lt
  rw[rhS] at h d⊢
  by_cases j:x.toNat%32=31
  ·rw[Aj j] at h;simp[Hd.bad] at h
  rw[Ai j] at h d⊢
  by_cases g:(rlS r).2.2.1=0
  ·rw[Aj g] at h d⊢
   have k:=WA g
   simp only[D9] at d⊢
   rw[show(rlS r).2.1+1+(rlS r).1=(rlS r).2.1+(rlS r).1+1 by omega,List.take_succ_cons,List.drop_succ_cons]
   have e:((r.drop (rlS r).2.1).take (rlS r).1).length=(rlS r).1:=by rw[Ec,Eh];omega
   unfold Ei eM
   rw[e,←k,←List.take_add]
   congr 1
   apply B8.1
   rw[gL _ Aa Aa]
   grind
  ·rw[Ai g] at h;exact Bg h g
structure Tv where
 c:Nat
 n:Nat
 k:Bool
 v:List UInt8
 deriving DecidableEq
def Tv.enc (t:Tv):List UInt8:=Ei t.c t.n t.k t.v
structure Tv.ok (t:Tv):Prop where
 c:t.c≤3
 n:t.n≤30
 v:t.v.length≤2147483647
def Tv.hd (t:Tv):Nat:=(N7 t.v.length).length+1
theorem Tv.len (t:Tv):t.enc.length=t.hd+t.v.length:=by
 grind [Tv.enc,Tv.hd,Ei,eM,D9,En]
theorem Tv.body (t:Tv):t.enc.drop t.hd=t.v:=by
 unfold Tv.enc Tv.hd Ei eM
 grind
theorem Tv.hd_pos (t:Tv) (h:t.ok):2≤t.hd:=by have:=aW _ h.v;unfold Tv.hd;omega
theorem NG {t:Tv} (h:t.ok) (rest:List UInt8):rhS (t.enc++rest)=⟨t.c,t.n,t.k,t.v.length,t.hd,0,0⟩:=WB t.v rest h.c h.n h.v
theorem Tv.inj {t u:Tv} (m:t.ok) (j:u.ok) {r:List UInt8} (h:t.enc++r=u.enc++s):t=u∧r=s:=by
 have e:=NG m r
 have g:=NG j s
 rw[h] at e
 rw[e] at g
 injection g with A z v y k
 have q:t.enc=u.enc:=by
  have:=Cf (List.take t.enc.length) h
  rw[List.take_left,show t.enc.length=u.enc.length by rw[Tv.len,Tv.len];omega,List.take_left] at this
  exact this
 have B:t.v=u.v:=by rw[←t.body,←u.body,q,show t.hd=u.hd from k]
 obtain⟨a,b,c,d⟩:=t
 simp_all
def Tv.el (at':Nat) (t:Tv):El:=⟨t.c,t.n,t.k,at',at'+t.hd,at'+t.enc.length⟩
theorem yX {pre rest:List UInt8} {t:Tv} (h:t.ok) (e:b.take en=pre++(t.enc++rest)) (g:en≤b.length):nxS b pre.length en=⟨t.el pre.length,0,0⟩:=by
 have k:(b.drop pre.length).take (en-pre.length)=t.enc++rest:=by
  rw[←C2,e,List.drop_left]
 have j:en=pre.length+(t.enc++rest).length:=by
  have:=Cf List.length e
  rw[Ec,En] at this;omega
 rw[En] at j
 have d:=NG h rest
 rw[←k] at d
 rw[LQ d rfl (by have:=t.len;show t.hd+t.v.length≤_;omega)]
 simp only[Tv.el,Tv.len,C8]
theorem yY (H:at'≤en) (J:en≤b.length) (h:(nxS b at' en).code=0):∃t:Tv,t.ok∧(nxS b at' en).x=t.el at'∧(b.drop at').take (en-at')=t.enc++(b.drop (at'+t.enc.length)).take (en-(at'+t.enc.length))∧at'+t.enc.length≤en:=by
 have d:((b.drop at').take (en-at')).length=en-at':=by rw[Ec,Eh];omega
 have q:=Kj ((b.drop at').take (en-at'))
 unfold nxS at h⊢
 by_cases j:(rhS ((b.drop at').take (en-at'))).code≠0
 ·rw[Aj j] at h;exact Bg h j
 rw[Ai j] at h⊢
 by_cases u:en-at'<(rhS ((b.drop at').take (en-at'))).size+(rhS ((b.drop at').take (en-at'))).len
 ·rw[Aj u] at h;cases h
 rw[Ai u]
 have e:=yW (As.1 j) (by rw[d];omega)
 have z:=q.1 (As.1 j)
 generalize y:(b.drop at').take (en-at')=L at e q z u d⊢
 generalize K:rhS L=hd at e q z u⊢
 obtain⟨-,N,M,B,I,E,F⟩:=q
 have A:((L.drop hd.size).take hd.len).length=hd.len:=by rw[Ec,Eh];omega
 refine⟨⟨hd.c,hd.n,hd.k,(L.drop hd.size).take hd.len⟩,⟨E,F,by rw[A];exact B⟩,?_,?_,?_⟩
 ·have g:=Cf List.length e
  rw[Ec] at g
  have k:=Tv.len ⟨hd.c,hd.n,hd.k,(L.drop hd.size).take hd.len⟩
  have m:(Tv.enc ⟨hd.c,hd.n,hd.k,(L.drop hd.size).take hd.len⟩).length=hd.size+hd.len:=by
   show(Ei hd.c hd.n hd.k ((L.drop hd.size).take hd.len)).length=_
   omega
  have v:Tv.hd ⟨hd.c,hd.n,hd.k,(L.drop hd.size).take hd.len⟩=hd.size:=by rw[m] at k;simp only[A] at k;omega
  simp only[Tv.el,m,v,C8]
 ·have g:=Cf List.length e
  rw[Ec] at g
  show L=Ei hd.c hd.n hd.k ((L.drop hd.size).take hd.len)++(b.drop (at'+(Ei hd.c hd.n hd.k ((L.drop hd.size).take hd.len)).length)).take (en-(at'+(Ei hd.c hd.n hd.k ((L.drop hd.size).take hd.len)).length))
  rw[←e,Ec]
  conv=>lhs;rw[←C5 (hd.size+hd.len) L]
  congr 1
  rw[←y,C2,C3,y,show min (hd.size+hd.len) L.length=hd.size+hd.len by omega]
  congr 1
  omega
 ·have g:=Cf List.length e
  rw[Ec] at g
  show at'+(Ei hd.c hd.n hd.k ((L.drop hd.size).take hd.len)).length≤en
  omega
theorem Nk {t:Tv} (d:t.ok):Em t.enc=⟨t.el 0,0,0⟩:=by
 have h:=yX (b:=t.enc) (pre:=[]) (rest:=[]) (en:=t.enc.length) d Ab (At _)
 rw[Ax] at h
 unfold Em
 rw[h,Ai]
 grind [Tv.el]
theorem Qn (h:(Em b).code=0):∃t:Tv,t.ok∧Em b=⟨t.el 0,0,0⟩∧b=t.enc:=by
 have d:=(Fa b).1 h
 unfold Em at h d⊢
 by_cases k:(nxS b 0 b.length).code=0∧(nxS b 0 b.length).x.stop<b.length
 ·rw[Aj k] at h;cases h
 rw[Ai k] at h d⊢
 obtain⟨t,j,e,m,q⟩:=yY (Nat.zero_le _) (At _) h
 have g:=d.2.2.2.1
 rw[e] at g
 simp only[Tv.el,A0] at g
 refine⟨t,j,?_,?_⟩
 ·generalize nxS b 0 b.length=r at h e d
  obtain⟨x,c,o⟩:=r
  grind
 grind
def tvsE (ts:List Tv):List UInt8:=ts.flatMap Tv.enc
def els:Nat→List Tv→List El
 |_,[]=>[]
 |at',t::r=>t.el at'::els (at'+t.enc.length) r
theorem Fm (t:Tv) (r:List Tv):tvsE (t::r)=t.enc++tvsE r:=A4
theorem N9 {t:Tv} (h:t.ok):2≤t.enc.length:=by have:=t.hd_pos h;rw[Tv.len];omega
theorem Qo:∀(ts:List Tv) (b pre:List UInt8) (en:Nat),(∀t∈ts,t.ok)→b.take en=pre++tvsE ts→en≤b.length→F7 b pre.length en=⟨els pre.length ts,0,0⟩
 |[],b,pre,en,_,hb,hen=>by
  have:=Cf List.length hb
  rw[Ec,En] at this
  rw[Xt (by grind [tvsE])];rfl
 |t::r,b,pre,en,ht,hb,hen=>by
  have h:=ht t Ab
  rw[Fm] at hb
  have e:=yX h hb hen
  have k:=Cf List.length hb
  rw[Ec,En,En] at k
  have m:=N9 h
  have g:=Qo r b (pre++t.enc) en (fun u j=>ht u (by simp[j])) (by rw[hb,Bt]) hen
  rw[En] at g
  have d:(nxS b pre.length en).x.stop=pre.length+t.enc.length:=by rw[e];rfl
  rw[Ux hen Aa (by rw[e]),d,g,Ai Ab,e];rfl
theorem Tx:∀(f:Nat) (b:List UInt8) (at' en:Nat),en-at'≤f→at'≤en→en≤b.length→(F7 b at' en).code=0→∃ts:List Tv,(∀t∈ts,t.ok)∧F7 b at' en=⟨els at' ts,0,0⟩∧(b.drop at').take (en-at')=tvsE ts
 |f,b,at',en,hf,h1,h2,h=>by
  by_cases d:at'<en
  ·by_cases k:(nxS b at' en).code≠0
   ·grind [fX,absurd]
   ·have k':=As.1 k
    obtain⟨t,m,g,z,v⟩:=yY h1 h2 k'
    have A:=N9 m
    have j:=Ux h2 d k'
    have e:(nxS b at' en).x.stop=at'+t.enc.length:=by rw[g];rfl
    rw[e] at j
    by_cases k3:(F7 b (at'+t.enc.length) en).code≠0
    ·grind
    ·match f,hf with
     |0,hf=>omega
     |f+1,hf=>
      obtain⟨ts,E,y,q⟩:=Tx f b (at'+t.enc.length) en Aa v h2 (As.1 k3)
      refine⟨t::ts,fun u B=> ?_,?_,?_⟩
      ·grind
      ·rw[j,Ai k3,y,g];rfl
      ·rw[z,q];rfl
  ·refine⟨[],Ab,?_,?_⟩
   ·rw[Xt d];rfl
   ·rw[show en-at'=0 by omega];rfl
end Go.Proofs.YtbedjionhmaafaaGreatDoor
