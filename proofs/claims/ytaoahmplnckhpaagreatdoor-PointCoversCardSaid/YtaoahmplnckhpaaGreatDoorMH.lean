/- MH: the texts Few Opn OpnG, one behind the other. No condition but what each lemma says. -/
import Derived.Test.YtaoahmplnckhpaaGreatDoorMG
import Derived.ChangeArms
import Derived.Lib.SmallJoins
import Derived.SevenTiedAt
import Derived.WideKeyArgs
set_option maxRecDepth 100000
set_option maxHeartbeats 16000000
namespace Go.Proofs.YtaoahmplnckhpaaGreatDoor
open Go.RowKit
theorem T1 {r:List Att} {i:Nat} {a:Att} (h:r[i]?=some a):Jr (r.take (i+1))=Jr (r.take i)+a.val.length:=Rf (fun a:Att=>a.val.length) h
theorem Rh {a:Att} (h:Ht a=true):a.val.length≤1000:=by
 unfold Ht at h;simp at h;exact h.2
theorem fV {r:List Att} (h:r.all Ht=true):Jr r≤r.length*1000:=
 cT _ 1000 r fun x hx=>Rh (List.all_eq_true.1 h x hx)
theorem Ri {α:Type} {l:List α} {i m:Nat} (hi:i≤l.length) (hm:i≤m) (h:¬(i<l.length∧i<m)):l.take i=l.take m:=by
 rcases Nat.lt_or_ge i l.length with h1|h1
 ·rw[show i=m by omega]
 ·rw[List.take_of_length_le h1,List.take_of_length_le (by omega)]
theorem L4 {p:Prop} (h:p:=by first|rfl|(simp only[AV.gives,AV.ren,AV.give,D.un,D.uns,Ai,Am,List.nil_append,List.append_nil,List.cons_append,Cm,Bm,A4,Cf,Ck];first|done|rfl)):p:=h
theorem J8 (r:List Att) (h:r.length≤big∧∀a∈r,a.ok):Ac Tryz.prog 24 [.d (Dm r)] (fun x=>x=bv (Dp r)):=by
 have hl:=h.1
 unfold big at hl
 refine acQ 36 Tryz.func24 rfl rfl fun _ _ _=> ?_
 (all_goals(conv=>whnf))
 refine Az (fun i:Nat=>i≤r.length∧i≤10∧(r.take i).all Ht=true) (fun i=>r.length-i) (fun i=>⟨[(0,.d (Dm r)),(3,iv (Jr (r.take i))),(4,iv i)],[],[]⟩) 0 ⟨by omega,by omega,rfl⟩ leQ ?_
 rintro i ⟨hi,hi10,ha⟩
 have hv:=fV ha
 rw[Al] at hv
 by_cases hik:i<r.length∧i<10
 ·obtain⟨hik,hi9⟩:=hik
  obtain⟨a,hg⟩:∃p,r[i]?=some p:=⟨_,Ak hik⟩
  have hF:=cU a (h.2 a (Bk hg))
  cases hf:Ht a
  ·rw[hf] at hF
   rw[show Dp r=false by unfold Dp;rw[Vo Ht hg (m:=10) hi9 hf];rfl]
   (repeat'((conv=>whnf);first|refine Ab ?_|refine NIdx.tab (fun _=>rfl) hg ?_|refine Aa hF L4 ?_|(refine Ah (fun hc hcP=> ?_) (fun hc hcP=> ?_)<;>try(exfalso;omega))|exact zE))
  ·rw[hf] at hF
   have hle:=Rh hf
   (repeat'((conv=>whnf);first|refine Ab ?_|refine Ae ?_|refine NIdx.tab (fun _=>rfl) hg ?_|refine Aa hF L4 ?_|refine NInt.as (((Jr (r.take i)+a.val.length:Nat):Int)) ((by rw[IntWalk.i64_in _ (by omega)];omega)) ?_|(with_reducible refine NInt.i64 ?_)|(refine Ah (fun hc hcP=> ?_) (fun hc hcP=> ?_)<;>try(exfalso;omega))));(all_goals(conv=>whnf))
   refine⟨i+1,⟨by omega,by omega,by rw[Rg Ht hg,ha,hf];rfl⟩,by omega,?_⟩
   rw[T1 hg]
   exact leQ
 ·have hR:Dp r=(decide (r.length≤8)&&decide (Jr (r.take i)≤2000)):=by unfold Dp;rw[←Ri hi hi10 hik,ha];rfl
  rw[hR]
  generalize Jr (r.take i)=s at hv⊢
  (repeat'((conv=>whnf);first|refine Ab ?_|refine Ae ?_|(refine Ah (fun hc hcP=> ?_) (fun hc hcP=> ?_)<;>try(exfalso;omega))));(all_goals(conv=>whnf))
  all_goals(refine Ba ?_;(repeat'(first|refine And.intro ?_ ?_|exact rfl));(all_goals(conv=>whnf)))
  all_goals(apply Bool.eq_iff_iff.2;simp only[Ap,decide_eq_true_eq,Bool.false_eq_true,false_iff]<;>omega)
theorem Gw {r:List Att} (h:Dp r=true):r.length≤8∧r.all Ht=true∧Jr r≤2000:=by
 unfold Dp at h
 simp only[Ap,decide_eq_true_eq] at h
 obtain⟨h1,h2,h3⟩:=h
 rw[List.take_of_length_le (by omega)] at h1 h3
 exact⟨h2,h1,h3⟩
def Ir (n:List (List Att)):Nat:=(n.map Jr).sum
theorem cY {n:List (List Att)} {i:Nat} {r:List Att} (h:n[i]?=some r):Ir (n.take (i+1))=Ir (n.take i)+Jr r:=Rf Jr h
theorem qX {n:List (List Att)} (h:n.all Dp=true):Ir n≤n.length*2000:=
 cT _ 2000 n fun x hx=>(Gw (List.all_eq_true.1 h x hx)).2.2
def Fr (n:List (List Att)):Bool:=(n.take 20).all Dp&&(decide (n.length≤10)&&decide (Ir (n.take 20)≤2000))
theorem qY {α:Type} {f:α→Bool} {l:List α} (h:l.all f=true) (k:Nat):(l.take k).all f=true:=
 List.all_eq_true.2 fun x hx=>List.all_eq_true.1 h x (List.mem_of_mem_take hx)
theorem Vp (n:List (List Att)) (h:n.length≤big∧∀r∈n,r.length≤big∧∀a∈r,a.ok):Ac Tryz.prog 93 [.d (Ff n)] (fun x=>x=bv (Fr n)):=by
 have hl:=h.1
 unfold big at hl
 refine acQ 49 Tryz.func93 rfl rfl fun _ _ _=> ?_
 (all_goals(conv=>whnf))
 refine Az (fun i:Nat=>i≤n.length∧i≤20∧(n.take i).all Dp=true) (fun i=>n.length-i) (fun i=>⟨[(0,.d (Ff n)),(3,iv (Ir (n.take i))),(4,iv i)],[],[]⟩) 0 ⟨by omega,by omega,rfl⟩ leQ ?_
 rintro i ⟨hi,hi10,ha⟩
 have hv:=qX ha
 rw[Al] at hv
 by_cases hik:i<n.length∧i<20
 ·obtain⟨hik,hi9⟩:=hik
  obtain⟨r,hg⟩:∃p,n[i]?=some p:=⟨_,Ak hik⟩
  have hF:=J8 r (h.2 r (Bk hg))
  cases hf:Dp r
  ·rw[hf] at hF
   rw[show Fr n=false by unfold Fr;rw[Vo Dp hg (m:=20) hi9 hf];rfl]
   (repeat'((conv=>whnf);first|refine Ab ?_|refine NIdx.tab (fun _=>rfl) hg ?_|refine Aa hF L4 ?_|(refine Ah (fun hc hcP=> ?_) (fun hc hcP=> ?_)<;>try(exfalso;omega))|exact zE))
  ·rw[hf] at hF
   obtain⟨q1,q2,q3⟩:=Gw hf
   (repeat'((conv=>whnf);first|refine Ab ?_|refine Ae ?_|refine NIdx.tab (fun _=>rfl) hg ?_|refine Aa hF L4 ?_|(refine Ah (fun hc hcP=> ?_) (fun hc hcP=> ?_)<;>try(exfalso;omega))));(all_goals(conv=>whnf))
   refine Az (fun k:Nat=>k≤r.length) (fun k=>r.length-k) (fun k=>⟨[(0,.d (Ff n)),(3,iv (Ir (n.take i)+Jr (r.take k):Nat)),(4,iv i),(5,iv k)],[],[]⟩) 0 (by omega) leQ ?_
   intro k hk
   have hw:=fV (qY q2 k)
   rw[Al] at hw
   by_cases hkl:k<r.length
   ·obtain⟨a,hga⟩:∃p,r[k]?=some p:=⟨_,Ak hkl⟩
    have hle:=Rh (List.all_eq_true.1 q2 a (Bk hga))
    (repeat'((conv=>whnf);first|refine NIdx.tab (fun _=>rfl) hg ?_|refine NIdx.tab (fun _=>rfl) hga ?_|refine NInt.as (((Ir (n.take i)+(Jr (r.take k)+a.val.length):Nat):Int)) ((by rw[IntWalk.i64_in _ (by omega)];omega)) ?_|(with_reducible refine NInt.i64 ?_)|(refine Ah (fun hc hcP=> ?_) (fun hc hcP=> ?_)<;>try(exfalso;omega))));(all_goals(conv=>whnf))
    refine⟨k+1,by omega,by omega,?_⟩
    rw[T1 hga]
    exact leQ
   ·obtain rfl:k=r.length:=by omega
    rw[List.take_length] at hw⊢
    (repeat'((conv=>whnf);first|refine NIdx.tab (fun _=>rfl) hg ?_|(with_reducible refine NInt.i64 ?_)|(refine Ah (fun hc hcP=> ?_) (fun hc hcP=> ?_)<;>try(exfalso;omega))));(all_goals(conv=>whnf))
    refine⟨i+1,⟨by omega,by omega,by rw[Rg Dp hg,ha,hf];rfl⟩,by omega,?_⟩
    rw[cY hg]
    exact leQ
 ·have hR:Fr n=(decide (n.length≤10)&&decide (Ir (n.take i)≤2000)):=by unfold Fr;rw[←Ri hi hi10 hik,ha];rfl
  rw[hR]
  generalize Ir (n.take i)=s at hv⊢
  (repeat'((conv=>whnf);first|refine Ab ?_|refine Ae ?_|(refine Ah (fun hc hcP=> ?_) (fun hc hcP=> ?_)<;>try(exfalso;omega))));(all_goals(conv=>whnf))
  all_goals(refine Ba ?_;(repeat'(first|refine And.intro ?_ ?_|exact rfl));(all_goals(conv=>whnf)))
  all_goals(apply Bool.eq_iff_iff.2;simp only[Ap,decide_eq_true_eq,Bool.false_eq_true,false_iff]<;>omega)
def Is (g:Gn):Bool:=decide (g.oid.length≤200)&&decide (g.tx.length≤500)&&decide (g.by'.length≤500)&&Fr g.nm&&decide (g.av.length≤200)&&decide (g.pv.length≤200)
theorem cZ (g:Gn) (h:g.ok):Ac Tryz.prog 58 [gnA g] (fun x=>x=bv (Is g)):=by
 obtain⟨h1,h2,h3,h4,h5,h6⟩:=h
 have hN:=Vp g.nm h4
 unfold big at h1 h2 h3 h5 h6
 unfold Is
 clear h4
 cases hf:Fr g.nm
 all_goals
  rw[hf] at hN
  refine acQ 38 Tryz.func58 rfl rfl fun _ _ _=> ?_
  (repeat'((conv=>whnf);first|refine Ab ?_|refine Ae ?_|refine Aa hN L4 ?_|(refine Ah (fun hc hcP=> ?_) (fun hc hcP=> ?_)<;>try(exfalso;omega))));(all_goals(conv=>whnf))
  all_goals(refine Ba ?_;(repeat'(first|refine And.intro ?_ ?_|exact rfl));(all_goals(conv=>whnf)))
  all_goals(apply Bool.eq_iff_iff.2;simp only[Ap,decide_eq_true_eq,Bool.false_eq_true,false_iff,and_true,and_false,false_and]<;>omega)
def F7 (g:Gn):Nat:=g.tx.length+g.by'.length+10*g.nm.length
def Dw (l:List Gn):Bool:=(l.take 10).all Is&&(decide (l.length≤8)&&decide (((l.take 10).map F7).sum≤1000))
theorem J9 {g:Gn} (h:Is g=true):g.oid.length≤200∧g.tx.length≤500∧g.by'.length≤500∧Fr g.nm=true∧g.av.length≤200∧g.pv.length≤200:=by
 unfold Is at h
 simp only[Ap,decide_eq_true_eq] at h
 obtain⟨⟨⟨⟨⟨h1,h2⟩,h3⟩,h4⟩,h5⟩,h6⟩:=h
 exact⟨h1,h2,h3,h4,h5,h6⟩
theorem H6 {n:List (List Att)} (h:Fr n=true):n.length≤10∧n.all Dp=true∧Ir n≤2000:=by
 unfold Fr at h
 simp only[Ap,decide_eq_true_eq] at h
 obtain⟨h1,h2,h3⟩:=h
 rw[List.take_of_length_le (by omega)] at h1 h3
 exact⟨h2,h1,h3⟩
theorem lJ {g:Gn} (h:Is g=true):F7 g≤1100:=by
 obtain⟨h1,h2,h3,h4,h5,h6⟩:=J9 h
 have:=(H6 h4).1
 unfold F7;omega
theorem S5 {l:List Gn} (h:Dw l=true):l.length≤8∧l.all Is=true∧(l.map F7).sum≤1000:=by
 unfold Dw at h
 simp only[Ap,decide_eq_true_eq] at h
 obtain⟨h1,h2,h3⟩:=h
 rw[List.take_of_length_le (by omega)] at h1 h3
 exact⟨h2,h1,h3⟩
theorem Jc (l:List Gn) (h:l.length≤big∧∀g∈l,g.ok):Ac Tryz.prog 23 [.d (Ch l)] (fun x=>x=bv (Dw l)):=by
 have hl:=h.1
 unfold big at hl
 refine acQ 51 Tryz.func23 rfl rfl fun _ _ _=> ?_
 (all_goals(conv=>whnf))
 refine Az (fun i:Nat=>i≤l.length∧i≤10∧(l.take i).all Is=true) (fun i=>l.length-i) (fun i=>⟨[(0,.d (Ch l)),(3,iv (((l.take i).map F7).sum:Nat)),(4,iv i)],[],[]⟩) 0 ⟨by omega,by omega,rfl⟩ leQ ?_
 rintro i ⟨hi,hi10,ha⟩
 have hv:=cT F7 1100 (l.take i) fun x hx=>lJ (List.all_eq_true.1 ha x hx)
 rw[Al] at hv
 by_cases hik:i<l.length∧i<10
 ·obtain⟨hik,hi9⟩:=hik
  obtain⟨g,hg⟩:∃p,l[i]?=some p:=⟨_,Ak hik⟩
  have hF:=cZ g (h.2 g (Bk hg))
  cases hf:Is g
  ·rw[hf] at hF
   rw[show Dw l=false by unfold Dw;rw[Vo Is hg (m:=10) hi9 hf];rfl]
   (repeat'((conv=>whnf);first|refine Ab ?_|refine NIdx.tab (fun _=>rfl) hg ?_|refine Aa hF L4 ?_|(refine Ah (fun hc hcP=> ?_) (fun hc hcP=> ?_)<;>try(exfalso;omega))|exact zE))
  ·rw[hf] at hF
   obtain⟨q1,q2,q3,q4,q5,q6⟩:=J9 hf
   have q7:=(H6 q4).1
   (repeat'((conv=>whnf);first|refine Ab ?_|refine Ae ?_|refine NIdx.tab (fun _=>rfl) hg ?_|refine Aa hF L4 ?_|(with_reducible refine NInt.i64 ?_)|refine zF ?_|(refine Ah (fun hc hcP=> ?_) (fun hc hcP=> ?_)<;>try(exfalso;omega))));(all_goals(conv=>whnf))
   refine⟨i+1,⟨by omega,by omega,by rw[Rg Is hg,ha,hf];rfl⟩,by omega,?_⟩
   rw[Rf F7 hg,show((((l.take i).map F7).sum+F7 g:Nat):Int)=((l.take i).map F7).sum+g.tx.length+g.by'.length+10*g.nm.length by unfold F7;omega]
   exact leQ
 ·have hR:Dw l=(decide (l.length≤8)&&decide (((l.take i).map F7).sum≤1000)):=by unfold Dw;rw[←Ri hi hi10 hik,ha];rfl
  rw[hR]
  generalize ((l.take i).map F7).sum=s at hv⊢
  (repeat'((conv=>whnf);first|refine Ab ?_|refine Ae ?_|(refine Ah (fun hc hcP=> ?_) (fun hc hcP=> ?_)<;>try(exfalso;omega))));(all_goals(conv=>whnf))
  all_goals(refine Ba ?_;(repeat'(first|refine And.intro ?_ ?_|exact rfl));(all_goals(conv=>whnf)))
  all_goals(apply Bool.eq_iff_iff.2;simp only[Ap,decide_eq_true_eq,Bool.false_eq_true,false_iff]<;>omega)
end Go.Proofs.YtaoahmplnckhpaaGreatDoor
namespace Go.Proofs.YtaoahmplnckhpaaGreatDoor
open Go.ChangeShapes Go.WideShapes Go.ChangeAt Go.RowKit Go.Joins
def Ys (w:World) (b _o:Nat):Prop:=b<w.heap.size
structure RdsW (w:World) (ds:List D) (cs:List Value):Prop where
 len:ds.length=cs.length
 one:∀u∈cs,u.oneCell'=true
 rd:∀(i:Nat) d u,ds[i]?=some d→cs[i]?=some u→Rd w.heap.size (Ys w) w d u
theorem RdsW.nil (w:World):RdsW w [] []:=⟨rfl,fun _ h=>(by cases h),fun i _ _ h=>(by simp at h)⟩
theorem RdsW.single {w:World} {d:D} {u:Value} (h1:u.oneCell'=true) (h:Rd w.heap.size (Ys w) w d u):RdsW w [d] [u]:=
 ⟨rfl,fun v hv=>by simp at hv;subst hv;exact h1,fun i d' u' hd hu=>by
   cases i with
   |zero=>simp at hd hu;subst hd hu;exact h
   |succ i=>simp at hd⟩
theorem RdsW.append {w:World} {ds es:List D} {cs vs:List Value} (h:RdsW w ds cs) (h':RdsW w es vs):RdsW w (ds++es) (cs++vs):=by
 refine⟨by simp[h.len,h'.len],fun u hu=> ?_,fun i d u hd hu=> ?_⟩
 ·rcases List.mem_append.1 hu with hu|hu
  ·exact h.one u hu
  ·exact h'.one u hu
 ·rcases Nat.lt_or_ge i ds.length with hi|hi
  ·rw[List.getElem?_append_left hi] at hd
   rw[List.getElem?_append_left (by rw[←h.len];exact hi)] at hu
   exact h.rd i d u hd hu
  ·rw[List.getElem?_append_right hi] at hd
   rw[List.getElem?_append_right (by rw[←h.len];exact hi),←h.len] at hu
   exact h'.rd _ d u hd hu
def Op {α:Type} (t:TypeId) (n:Nat) (C:α→List D) (ok:α→Prop):Prop:=
 ∀{H:Type} (enc:TypeId×Value→H) (w:World) (fuel:Nat) (cs:List Value) (x:DataW H×List MemPlace),DataW.trod enc Tryz.prog w 0 (fun _=>true) true fuel t cs=some x→∃a,ok a∧cs.length=n∧RdsW w (C a) cs
theorem qZ {t:TypeId} {k:IntKind} (ht:Tryz.prog.underlying t=some (.int k)):Op t 1 (fun n:Int=>[.v (.int k n)]) (fun n=>(Lit.int k n).wf=true):=by
 intro H enc w fuel cs x h
 obtain⟨n,rfl,rfl,hw⟩:=DataW.trod_int ht h
 exact⟨n,hw,rfl,.single rfl (.v _)⟩
theorem P2 {t:TypeId} (ht:Tryz.prog.underlying t=some .bool):Op t 1 (fun b:Bool=>[.v (.bool b)]) (fun _=>True):=by
 intro H enc w fuel cs x h
 obtain⟨b,rfl,rfl⟩:=DataW.trod_bool ht h
 exact⟨b,trivial,rfl,.single rfl (.v _)⟩
theorem BE {t:TypeId} (ht:Tryz.prog.underlying t=some .string):Op t 1 (fun l:List UInt8=>[sD l]) (fun l=>l.length≤big):=by
 intro H enc w fuel cs x h
 obtain⟨s,rfl,rfl,hs⟩:=DataW.trod_string ht h
 exact⟨s.data.toList,cV hs,rfl,.single rfl (.v _)⟩
theorem rA {w:World} {n:Nat} {ds:List (List D)} {cs:List (List Value)} (hl:ds.length=cs.length) (hn:∀c∈cs,c.length=n) (h:∀(i:Nat) d c,ds[i]?=some d→cs[i]?=some c→RdsW w d c):
 RdsW w ds.flatten cs.flatten∧cs.flatten.length=cs.length*n∧∀i,i<cs.flatten.length→∃c,cs[i/n]?=some c∧cs.flatten[i]?=c[i%n]?∧i%n<n∧i/n<cs.length:=by
 induction cs generalizing ds with
 |nil=>
  have:ds=[]:=List.length_eq_zero_iff.1 (by simpa using hl)
  subst this
  exact⟨.nil w,by simp,fun i hi=>by simp at hi⟩
 |cons c r ih=>
  match ds,hl with
  |d::ds,hl=>
   obtain⟨h1,h2,h3⟩:=ih (ds:=ds) (by simpa using hl) (fun c hc=>hn c (by simp[hc])) (fun i d c hd hc=>h (i+1) d c (by simpa using hd) (by simpa using hc))
   have hc:=hn c (by simp)
   refine⟨?_,?_,fun i hi=> ?_⟩
   ·rw[List.flatten_cons,List.flatten_cons]
    exact(h 0 d c rfl rfl).append h1
   ·simp only[List.flatten_cons,Aj,Ag,h2,hc,Nat.add_mul,Nat.one_mul];omega
   ·rw[List.flatten_cons,Aj] at hi
    rcases Nat.lt_or_ge i n with hin|hin
    ·refine⟨c,by rw[Nat.div_eq_of_lt hin];rfl,?_,Nat.mod_lt _ (by omega),by rw[Nat.div_eq_of_lt hin];simp⟩
     rw[List.flatten_cons,List.getElem?_append_left (by omega),Nat.mod_eq_of_lt hin]
    ·have hn0:0<n:=by
      rcases Nat.eq_zero_or_pos n with h0|h0
      ·subst h0
       rw[h2,Nat.mul_zero] at hi;omega
      ·exact h0
     obtain⟨c',k1,k2,k3,k4⟩:=h3 (i-n) (by omega)
     have e:i=(i-n)+n:=by omega
     have e1:i/n=(i-n)/n+1:=by rw[e,Nat.add_div_right _ hn0,Nat.add_sub_cancel]
     have e2:i%n=(i-n)%n:=by rw[e,Nat.add_mod_right,Nat.add_sub_cancel]
     refine⟨c',by rw[e1];exact k1,?_,by rw[e2];exact k3,by rw[e1,Ag];omega⟩
     rw[List.flatten_cons,List.getElem?_append_right (by omega),hc,e2];exact k2
theorem rB {β γ:Type} {n:Nat} {p:Nat→β→γ→Prop} (h:∀i,i<n→∃a c,p i a c):∃(al:List β) (cs:List γ),al.length=n∧cs.length=n∧∀(i:Nat) a c,al[i]?=some a→cs[i]?=some c→p i a c:=by
 induction n with
 |zero=>exact⟨[],[],rfl,rfl,fun i a c h=>by cases h⟩
 |succ n ih=>
  obtain⟨al,cs,h1,h2,h3⟩:=ih fun i hi=>h i (by omega)
  obtain⟨a,c,hp⟩:=h n (by omega)
  refine⟨al++[a],cs++[c],by simp[h1],by simp[h2],fun i a' c' ha hc=> ?_⟩
  rcases Nat.lt_or_ge i n with hi|hi
  ·rw[List.getElem?_append_left (by omega)] at ha hc
   exact h3 i a' c' ha hc
  ·rw[List.getElem?_append_right (by omega)] at ha hc
   rw[h1] at ha;rw[h2] at hc
   have:i=n:=by
    rcases Nat.eq_or_lt_of_le hi with e|e
    ·exact e.symm
    ·rw[List.getElem?_eq_none (by simp;omega)] at ha;cases ha
   subst this
   simp at ha hc;subst ha hc;exact hp
theorem Na {α:Type} {t e:TypeId} {n:Nat} {C:α→List D} {ok:α→Prop} (ht:Tryz.prog.underlying t=some (.slice e)) (hc:Tryz.prog.cellsOf e=n) (he:Op e n C ok):
 Op t 1 (fun l:List α=>[Ey false n C l]) (fun l=>l.length≤big∧∀a∈l,ok a):=by
 intro H enc w fuel cs x h
 rcases DataW.trod_slice ht h with⟨rfl,-⟩|⟨a,len,cap,elems,rest,m,rfl,rfl,-,-,hl,hm,hlen,hel,-,-⟩
 ·refine⟨[],⟨by simp[big],fun a h=>by cases h⟩,rfl,.single rfl ?_⟩
  exact .sl [] (Nat.le_refl _) (Nat.zero_le _) (by simp) rfl (fun _=>rfl) (fun u hu=>by cases hu) (fun i d u hd=>by simp at hd) (fun i u hu=>by cases hu)
 ·rw[hc] at hel
  have hp:∀i,i<len→∃(a':α) (c:List Value),(w.cells? 0 (a.add (i*n)) n=some c∧ok a'∧c.length=n∧RdsW w (C a') c):=by
   intro i hi
   have h1:=hel i hi
   rw[Ak (by omega)] at h1
   obtain⟨c,h2,h3⟩:=Option.bind_eq_some_iff.1 h1
   obtain⟨a',k1,k2,k3⟩:=he enc w m c _ h3
   exact⟨a',c,h2,k1,k2,k3⟩
  obtain⟨al,css,l1,l2,l3⟩:=rB hp
  have hcn:∀c∈css,c.length=n:=fun c hc=>by
   obtain⟨i,hi⟩:=List.mem_iff_getElem?.1 hc
   have:=(As.1 hi).1
   exact(l3 i _ c (Ak (by omega)) hi).2.2.1
  obtain⟨r1,r2,r3⟩:=rA (w:=w) (n:=n) (ds:=al.map C) (cs:=css) (by simp[l1,l2]) hcn (fun i d c hd hc=>by
   rw[List.getElem?_map,Option.map_eq_some_iff] at hd
   obtain⟨a',ha,rfl⟩:=hd
   exact(l3 i a' c ha hc).2.2.2)
  refine⟨al,⟨by rw[l1];exact Nat.le_trans hl hm,fun a' ha=> ?_⟩,rfl,.single rfl ?_⟩
  ·obtain⟨i,hi⟩:=List.mem_iff_getElem?.1 ha
   have:=(As.1 hi).1
   exact(l3 i a' _ hi (Ak (by omega))).2.1
  ·have hcell:∀i u,css.flatten[i]?=some u→w.cell? ((a.add (i/n*n)).add (i%n))=some u∧i/n*n+i%n=i:=fun i u hu=>by
    have hi:=(As.1 hu).1
    obtain⟨c,k1,k2,k3,k4⟩:=r3 i hi
    have hq:=(l3 (i/n) _ c (Ak (by omega)) k1).1
    have:=(World.cells?_some hq).2.2 (i%n) k3
    rw[k2] at hu
    rw[hu] at this
    exact⟨this,by rw[Nat.mul_comm];exact Nat.div_add_mod i n⟩
   have r2':(al.flatMap C).length=al.length*n:=by
    rw[List.flatMap_def,r1.len,r2,l1,l2]
   rw[←l1]
   refine .sl css.flatten (by rw[l1];exact hl) hm r2' (by rw[List.flatMap_def];exact r1.len.symm) (fun h=>by cases h) r1.one (fun i d u hd hu=> ?_) (fun i u hu=> ?_)
   ·rw[List.flatMap_def] at hd
    exact r1.rd i d u hd hu
   ·obtain⟨ab,ao,spot⟩:=a
    have hs:spot=none:=by
     have hi:=(As.1 hu).1
     have h0:=(hcell 0 _ (Ak (by omega))).1
     rw[Nat.zero_div,Nat.zero_mod,Nat.zero_mul] at h0
     simpa[Addr.add] using World.cell?_spot h0
    subst hs
    obtain⟨hq,he⟩:=hcell i u hu
    rw[Addr.add_lit,Addr.add_lit,Nat.add_assoc,he] at hq
    exact⟨ab,ao,rfl,World.block_lt_of_cell? w _ hq,fun h=>(by cases h),hq⟩
theorem Nb {w:World} {cs:List Value} {o:Nat} (h:cs.length=o):RdsW w [] (cs.drop o):=by
 rw[List.drop_of_length_le (by omega)];exact .nil w
theorem Bx {w:World} {cs:List Value} {o n:Nat} {ds es:List D} (h:RdsW w ds ((cs.drop o).take n)) (h':RdsW w es (cs.drop (o+n))):RdsW w (ds++es) (cs.drop o):=by
 have:cs.drop o=(cs.drop o).take n++cs.drop (o+n):=by rw[←List.drop_drop,List.take_append_drop]
 rw[this];exact h.append h'
theorem By {H:Type} {enc:TypeId×Value→H} {w:World} {fs:Array Field} {m:Nat} {cs:List Value} {xs:List (DataW H×List MemPlace)} (hl:xs.length=fs.size) (h:∀(i:Nat) (f:Field),fs[i]?=some f→DataW.trod enc Tryz.prog w 0 (fun _=>true) true m f.type ((cs.drop f.offset).take (Tryz.prog.cellsOf f.type))=xs[i]?)
 {α:Type} {C:α→List D} {ok:α→Prop} {t:TypeId} {o n:Nat} (i:Nat) (hf:(fs[i]?).map (fun f=>(f.type,f.offset))=some (t,o)) (hc:Tryz.prog.cellsOf t=n) (hop:Op t n C ok):∃a,ok a∧RdsW w (C a) ((cs.drop o).take n):=by
 obtain⟨f,hf1,hf2⟩:=Option.map_eq_some_iff.1 hf
 simp only[Prod.mk.injEq] at hf2
 obtain⟨rfl,rfl⟩:=hf2
 have h1:=h i f hf1
 have hi:i<xs.length:=by rw[hl];exact(Array.getElem?_eq_some_iff.1 hf1).1
 rw[Ak hi,hc] at h1
 obtain⟨a,k1,-,k3⟩:=hop enc w m _ _ h1
 exact⟨a,k1,k3⟩
theorem BF (l:List UInt8):Ey false 1 (fun y:UInt8=>[D.v (.int .u8 y.toNat)]) l=Af false l:=by
 have:l.flatMap (fun y:UInt8=>[D.v (.int .u8 y.toNat)])=Ar l:=by
  unfold Ar
  induction l with
  |nil=>rfl
  |cons x r ih=>simp only[List.flatMap_cons,List.map_cons,ih];rfl
 unfold Af
 rw[←this]
theorem EA:Op 5 1 (fun y:UInt8=>[.v (.int .u8 y.toNat)]) (fun _=>True):=by
 intro H enc w fuel cs x h
 obtain⟨n,hw,hl,hr⟩:=qZ (k:= .u8) Tryz.underlying5 enc w fuel cs x h
 have hn:0≤n∧n≤255:=by
  simp only[Lit.wf,Ap,decide_eq_true_eq] at hw
  exact hw
 refine⟨UInt8.ofNat n.toNat,trivial,hl,?_⟩
 have:((UInt8.ofNat n.toNat).toNat:Int)=n:=by
  rw[UInt8.toNat_ofNat'];omega
 show RdsW w [.v (.int .u8 (UInt8.ofNat n.toNat).toNat)] cs
 rw[this];exact hr
theorem Yt:Op 33 1 (fun l:List UInt8=>[Af false l]) (fun l=>l.length≤big):=by
 intro H enc w fuel cs x h
 obtain⟨l,⟨h1,-⟩,h2,h3⟩:=Na Tryz.underlying33 (by kernel_rfl) EA enc w fuel cs x h
 exact⟨l,h1,h2,by show RdsW w [Af false l] cs;rw[←BF];exact h3⟩
theorem K5:Op 9 1 (fun l:List UInt8=>[sD l]) (fun l=>l.length≤big):=BE Tryz.underlying9
theorem Vq:Op 3 1 (fun n:Int=>[iD n]) (fun n=>(Lit.int .i64 n).wf=true):=qZ Tryz.underlying3
theorem Yu {w:World} {ds:List D} {cs:List Value} (h:RdsW w ds (cs.drop 0)):RdsW w ds cs:=by rwa[List.drop_zero] at h
theorem BG:Op 101 2 atC Att.ok:=by
 intro H enc w fuel cs x h
 obtain⟨xs,m,-,-,hl,hn,hf⟩:=DataW.trod_struct Tryz.underlying101 h
 have hl':cs.length=2:=hl.trans (by kernel_rfl)
 obtain⟨o,k0,r0⟩:=By hn hf (o:=0) 0 (by kernel_rfl) (by kernel_rfl) K5
 obtain⟨v,k1,r1⟩:=By hn hf (o:=1) 1 (by kernel_rfl) (by kernel_rfl) Yt
 exact⟨⟨o,v⟩,⟨k0,k1⟩,hl',Yu (Bx r0 (Bx r1 (Nb hl')))⟩
theorem dA:Op 24 1 lH (fun r=>r.length≤big∧∀a∈r,a.ok):=Na Tryz.underlying24 (by kernel_rfl) BG
theorem wP:Op 54 1 (fun n=>[Ff n]) (fun n=>n.length≤big∧∀r∈n,r.length≤big∧∀a∈r,a.ok):=Na Tryz.underlying54 (by kernel_rfl) dA
theorem fW:Op 56 2 (fun p:Int×List UInt8=>[iD p.1,sD p.2]) (fun p=>(Lit.int .i64 p.1).wf=true∧p.2.length≤big):=by
 intro H enc w fuel cs x h
 obtain⟨xs,m,-,-,hl,hn,hf⟩:=DataW.trod_struct Tryz.underlying56 h
 have hl':cs.length=2:=hl.trans (by kernel_rfl)
 obtain⟨o,k0,r0⟩:=By hn hf (o:=0) 0 (by kernel_rfl) (by kernel_rfl) Vq
 obtain⟨v,k1,r1⟩:=By hn hf (o:=1) 1 (by kernel_rfl) (by kernel_rfl) K5
 exact⟨⟨o,v⟩,⟨k0,k1⟩,hl',Yu (Bx r0 (Bx r1 (Nb hl')))⟩
structure Gn.wf (g:Gn):Prop where
 ok:g.ok
 k:(Lit.int .i64 g.k).wf=true
 ak:(Lit.int .i64 g.ak).wf=true
 pk:(Lit.int .i64 g.pk).wf=true
theorem EB:Op 58 9 gnC Gn.wf:=by
 intro H enc w fuel cs x h
 obtain⟨xs,m,-,-,hl,hn,hf⟩:=DataW.trod_struct Tryz.underlying58 h
 have hl':cs.length=9:=hl.trans (by kernel_rfl)
 obtain⟨k,k0,r0⟩:=By hn hf (o:=0) 0 (by kernel_rfl) (by kernel_rfl) Vq
 obtain⟨o,k1,r1⟩:=By hn hf (o:=1) 1 (by kernel_rfl) (by kernel_rfl) K5
 obtain⟨t,k2,r2⟩:=By hn hf (o:=2) 2 (by kernel_rfl) (by kernel_rfl) K5
 obtain⟨b,k3,r3⟩:=By hn hf (o:=3) 3 (by kernel_rfl) (by kernel_rfl) Yt
 obtain⟨n,k4,r4⟩:=By hn hf (o:=4) 4 (by kernel_rfl) (by kernel_rfl) wP
 obtain⟨a,k5,r5⟩:=By hn hf (o:=5) 5 (by kernel_rfl) (by kernel_rfl) fW
 obtain⟨p,k6,r6⟩:=By hn hf (o:=7) 6 (by kernel_rfl) (by kernel_rfl) fW
 exact⟨⟨k,o,t,b,n,a.1,a.2,p.1,p.2⟩,⟨⟨k1,k2,k3,k4,k5.2,k6.2⟩,k0,k5.1,k6.1⟩,hl',Yu (Bx r0 (Bx r1 (Bx r2 (Bx r3 (Bx r4 (Bx r5 (Bx r6 (Nb hl'))))))))⟩
theorem dB:Op 22 1 (fun l=>[Ch l]) (fun l=>l.length≤big∧∀g∈l,g.wf):=Na Tryz.underlying22 (by kernel_rfl) EB
abbrev ARA (W:World):AV→Value→Prop:=RA W.heap.size (Ys W) W ⟨fun _=>0,fun _ _=>False⟩ (fun _=>undef)
theorem fX {α:Type} {t:TypeId} {n:Nat} {C:α→List D} {ok:α→Prop} (hop:Op t n C ok) {fs:Array Field} (ht:Tryz.prog.underlying t=some (.struct fs)) {H:Type} {enc:TypeId×Value→H} {W:World} {base:Nat} {v:Value} {d:DataW H} {p:List MemPlace}
 (hv:Value.okWide Tryz.prog W .any base t v) (h:DataW.Trod enc Tryz.prog W 0 (fun _=>true) true t v d p):∃a,ok a∧ARA W (.agg ((C a).map .d)) v:=by
 simp only[Value.okWide,ht] at hv
 obtain⟨cs,rfl,-⟩:=hv
 obtain⟨fuel,hf⟩:=h
 obtain⟨a,k1,-,k3⟩:=hop enc W fuel _ _ hf
 refine⟨a,k1,?_⟩
 have hr:RdsW W (C a) cs.toList:=k3
 have:=RA.agg (B:=W.heap.size) (fp:=Ys W) (w:=W) (bm:=⟨fun _=>0,fun _ _=>False⟩) (gt:=fun _=>undef) (cs:=(C a).map .d) cs.toList (by rw[List.length_map];exact hr.len.symm) (fun i u v hu hv=>by
  rw[List.getElem?_map,Option.map_eq_some_iff] at hu
  obtain⟨d,hd,rfl⟩:=hu
  exact .d (hr.rd i d v hd hv))
 simpa using this
theorem wQ:laidOutB Tryz.prog=true:=by kernel_rfl
theorem fY {H:Type} {enc:TypeId×Value→H} {t:TypeId} (hrow:t<Tryz.prog.types.size) (hr:Tryz.prog.readableRec t=true) {W W':World} {v1:Value} {d1:DataW H} {p1:List MemPlace} (h1:DataW.Trod enc Tryz.prog W 0 (fun _=>true) true t v1 d1 p1) (hb:Below W.heap.size W W') (hlt:∀x∈p1,x.block<W.heap.size):
 DataW.Trod enc Tryz.prog W' 0 (fun x=>decide (x<W.heap.size)) true t v1 d1 p1:=
 WideElems.Trod_stays (P:=Tryz.prog) wQ hr hrow h1 (fun x hx=>hb.same (hlt x hx)) (fun x hx=>by simpa using hlt x hx)
end Go.Proofs.YtaoahmplnckhpaaGreatDoor
