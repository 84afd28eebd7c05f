/- MG: the texts Under Sub Perm Awk18 Fin LaidL, one behind the other. No condition but what each lemma says. -/
import Derived.Test.YtgmbmfoabndmoaaGreatDoorME
import Derived.Test.YtgmbmfoabndmoaaGreatDoorRows
import Derived.Test.YtgmbmfoabndmoaaGreatDoorShelf
import Derived.Test.YtgmbmfoabndmoaaGreatDoorGGd
import Derived.ProofKit
import Derived.LaidMore
import Derived.Lay
import Derived.OpenShut
import Derived.PinnedBridge
import Derived.Lib.LaidU8T
import Derived.Lib.LaidIn
import Derived.LaidHandle
import Derived.Stop.Joined
import Derived.Shelf.Vars
import Derived.HandedShaped
set_option maxRecDepth 100000
set_option maxHeartbeats 16000000
namespace Go.Proofs.YtgmbmfoabndmoaaGreatDoor
open Go.RowKit
def Q6 (a b:List UInt8):Bool:=a.map P7==b.map P7
def Fu (n b:List UInt8):Bool:=b==[]||Q6 n b||(decide (b.length<n.length)&&(n[n.length-b.length-1]?==some 46&&Q6 (n.drop (n.length-b.length)) b))
theorem P8 {a b:List UInt8} (h:a.length≠b.length):Q6 a b=false:=by
 unfold Q6
 rw[beq_eq_false_iff_ne]
 intro e
 have:=congrArg List.length e
 simp at this;exact h this
abbrev sv (l:List UInt8):AV:= .d (.v (.string ⟨⟨l⟩⟩))
theorem bE (a b:List UInt8) (ha:a.length≤16777216) (hb:b.length≤16777216):Aa Tryz.prog 54 [sv a,sv b] (fun r=>r=bv (Q6 a b)):=by
 have h1:=Wj a ha
 have h2:=Wj b hb
 by_cases h:a.length=b.length
 ·refine Bf 17 _ D3 mixed Tryz.func54 rfl (by kernel_rfl) rfl rfl rfl rfl fun W0 fp0 z0=> ?_
  (repeat'((conv=>whnf);first|refine NBr.yes ?_|refine NCall.eq (h1) (by rfl) ?_|refine NCall.eq (h2) (by rfl) ?_|(refine NBr.dec (fun hc hcP=> ?_) (fun hc hcP=> ?_)<;>try(exfalso;omega))));(all_goals(conv=>whnf))
  all_goals(refine NEnd.eq ?_;(repeat'(first|exact Ak _|refine And.intro ?_ ?_|exact rfl)))
 ·rw[P8 h]
  refine Bf 17 _ D3 mixed Tryz.func54 rfl (by kernel_rfl) rfl rfl rfl rfl fun W0 fp0 z0=> ?_
  (repeat'((conv=>whnf);first|refine NBr.no ?_|(refine NBr.dec (fun hc hcP=> ?_) (fun hc hcP=> ?_)<;>try(exfalso;omega))));(all_goals(conv=>whnf))
  all_goals(refine NEnd.eq ?_;(repeat'(first|exact Ak _|refine And.intro ?_ ?_|exact rfl)))
theorem Wk (n b:List UInt8) (hn:n.length≤16777216) (hb:b.length≤16777216):Aa Tryz.prog 35 [sv n,sv b] (fun r=>r=bv (Fu n b)):=by
 by_cases hb0:b=[]
 ·subst hb0
  rw[show Fu n []=true by simp[Fu]]
  refine Bf 41 _ D3 mixed Tryz.func35 rfl (by kernel_rfl) rfl rfl rfl rfl fun W0 fp0 z0=> ?_
  (repeat'((conv=>whnf);refine NBr.yes ?_));(all_goals(conv=>whnf))
  all_goals(refine NEnd.eq ?_;(repeat'(first|exact Ak _|refine And.intro ?_ ?_|exact rfl)))
 have hbe:(b==[])=false:=by rw[beq_eq_false_iff_ne];exact hb0
 have hS:=bE n b hn hb
 rcases(by omega:n.length=b.length∨n.length<b.length∨b.length<n.length) with h|h|h
 ·rw[show Fu n b=Q6 n b by
   unfold Fu;rw[hbe,show decide (b.length<n.length)=false by simp;omega];simp]
  cases hs:Q6 n b
  all_goals
   rw[hs] at hS
   refine Bf 41 _ D3 mixed Tryz.func35 rfl (by kernel_rfl) rfl rfl rfl rfl fun W0 fp0 z0=> ?_
   (repeat'((conv=>whnf);first|refine NBr.yes ?_|refine NBr.no ?_|refine NBr.neg (by assumption) ?_|refine NCall.eq (hS) (by rfl) ?_|(with_reducible refine NInt.i64 ?_)|(refine NBr.dec (fun hc hcP=> ?_) (fun hc hcP=> ?_)<;>try(exfalso;omega))));(all_goals(conv=>whnf))
   all_goals(refine NEnd.eq ?_;(repeat'(first|exact Ak _|refine And.intro ?_ ?_|exact rfl)))
 ·rw[show Fu n b=false by
   unfold Fu;rw[hbe,P8 (by omega),show decide (b.length<n.length)=false by simp;omega];simp]
  refine Bf 41 _ D3 mixed Tryz.func35 rfl (by kernel_rfl) rfl rfl rfl rfl fun W0 fp0 z0=> ?_
  (repeat'((conv=>whnf);first|refine NBr.no ?_|refine NBr.neg (by assumption) ?_|(with_reducible refine NInt.i64 ?_)|(refine NBr.dec (fun hc hcP=> ?_) (fun hc hcP=> ?_)<;>try(exfalso;omega))));(all_goals(conv=>whnf))
  all_goals(refine NEnd.eq ?_;(repeat'(first|exact Ak _|refine And.intro ?_ ?_|exact rfl)))
 ·obtain⟨m,hm⟩:∃m,n.length=b.length+m+1:=⟨n.length-b.length-1,by omega⟩
  obtain⟨x,hx⟩:∃x,n[m]?=some x:=⟨_,List.getElem?_eq_getElem (by omega)⟩
  have hU:Fu n b=(x==46&&Q6 (n.drop (m+1)) b):=by
   unfold Fu
   rw[hbe,P8 (by omega),show decide (b.length<n.length)=true by simp;omega,show n.length-b.length-1=m by omega,hx,show n.length-b.length=m+1 by omega]
   simp
  rw[hU]
  have he:(n.drop (m+1)).take (n.length-(m+1))=n.drop (m+1):=List.take_of_length_le (by rw[List.length_drop];omega)
  have hT:=bE (n.drop (m+1)) b (by rw[List.length_drop];omega) hb
  rw[←he] at hT
  have hx2:=x.toNat_lt
  by_cases hx46:x=46
  ·subst hx46
   rw[he] at hT
   rw[←he] at hT
   refine Bf 41 _ D3 mixed Tryz.func35 rfl (by kernel_rfl) rfl rfl rfl rfl fun W0 fp0 z0=> ?_
   (repeat'((conv=>whnf);first|refine NBr.yes ?_|refine NBr.no ?_|refine NBr.neg (by assumption) ?_|refine NCall.eq (hT) (by rfl) ?_|refine NIdxS.at hx ?_|refine NSlS.bytes (m+1) (n.length) ?_|(with_reducible refine NInt.i64 ?_)|(refine NBr.dec (fun hc hcP=> ?_) (fun hc hcP=> ?_)<;>try(exfalso;omega))));(all_goals(conv=>whnf))
   all_goals(rw[he];(refine NEnd.eq ?_;(repeat'(first|exact Ak _|refine And.intro ?_ ?_|exact rfl))))
  ·have hxn:((x.toNat:Int)==46)=false:=by
    rw[beq_eq_false_iff_ne];intro e;exact hx46 (UInt8.toNat_inj.1 (by simpa using(by omega:x.toNat=46)))
   rw[show(x==46)=false by rw[beq_eq_false_iff_ne];exact hx46]
   refine Bf 41 _ D3 mixed Tryz.func35 rfl (by kernel_rfl) rfl rfl rfl rfl fun W0 fp0 z0=> ?_
   (repeat'((conv=>whnf);first|refine NBr.yes ?_|refine NBr.no ?_|refine NBr.neg (by assumption) ?_|refine NIdxS.at hx ?_|(with_reducible refine NInt.i64 ?_)|(refine NBr.dec (fun hc hcP=> ?_) (fun hc hcP=> ?_)<;>try(exfalso;omega))));(all_goals(conv=>whnf))
   all_goals(refine NEnd.eq ?_;(repeat'(first|exact Ak _|refine And.intro ?_ ?_|exact rfl)))
abbrev DP:D:= .v (.slice none 0 0)
theorem Vm {n:Nat} {l b:List UInt8} (h:TxOk n l b):Aa Tryz.prog 27 [.d (Df [gnV n l])] (fun r=>r=bv true):=by
 have h1:=Rk h
 refine Bf 12 _ D3 mixed Tryz.func27 rfl (by kernel_rfl) rfl rfl rfl rfl fun W0 fp0 z0=> ?_
 (repeat'((conv=>whnf);refine NCall.eq (h1) (by rfl) ?_));(all_goals(conv=>whnf))
 all_goals(refine NEnd.eq ?_;(repeat'(first|exact Ak _|refine And.intro ?_ ?_|exact rfl)))
theorem oD {n:Nat} {l b:List UInt8} (h:TxOk n l b):Aa Tryz.prog 26 [.d (Df [gnV n l])] (fun r=>r=bv true):=by
 have h1:=Vm h
 refine Bf 10 _ D3 mixed Tryz.func26 rfl (by kernel_rfl) rfl rfl rfl rfl fun W0 fp0 z0=> ?_
 (repeat'((conv=>whnf);first|refine NBr.no ?_|refine NCall.eq (h1) (by rfl) ?_));(all_goals(conv=>whnf))
 all_goals(refine NEnd.eq ?_;(repeat'(first|exact Ak _|refine And.intro ?_ ?_|exact rfl)))
theorem oE:Aa Tryz.prog 26 [.d DP] (fun r=>r=bv true):=by
 refine Bf 10 _ D3 mixed Tryz.func26 rfl (by kernel_rfl) rfl rfl rfl rfl fun W0 fp0 z0=> ?_
 (repeat'((conv=>whnf);refine NBr.yes ?_));(all_goals(conv=>whnf))
 all_goals(refine NEnd.eq ?_;(repeat'(first|exact Ak _|refine And.intro ?_ ?_|exact rfl)))
theorem Yf {n:Nat} {l b:List UInt8} (h:TxOk n l b):Aa Tryz.prog 13 [.agg [.d (Df [gnV n l]),.d DP]] (fun r=>r=bv true):=by
 have h1:=oD h
 have h2:=oE
 refine Bf 24 _ D3 mixed Tryz.func13 rfl (by kernel_rfl) rfl rfl rfl rfl fun W0 fp0 z0=> ?_
 (repeat'((conv=>whnf);first|refine NBr.yes ?_|refine NCall.eq (h1) (by rfl) ?_|refine NCall.eq (h2) (by rfl) ?_|(with_reducible refine NInt.i64 ?_)));(all_goals(conv=>whnf))
 all_goals(refine NEnd.eq ?_;(repeat'(first|exact Ak _|refine And.intro ?_ ?_|exact rfl)))
theorem Tm {n:Nat} {l b:List UInt8} (h:TxOk n l b):Aa Tryz.prog 10 [.agg [.d (Df [gnV n l]),.d DP]] (fun r=>r= .tup [Aq 0 5 (Ae 0 16 true (Ae 2 0 true (Ae 0 16 true b))),iv 0]):=by
 have h0:=Yf h
 have h1:Aa Tryz.prog 21 [gnA (gnV n l)] (fun r=>r= .tup [Aq 0 5 b,iv 0]):=Q5 h
 have hs:=h.small
 have e1:∀c n (x:List UInt8),x.length≤200000→(Ae c n true x).length≤x.length+10:=fun c n x hx=>by
  have:=Ht x.length (by omega)
  simp only[Ae,Iu,List.length_cons,List.length_append];omega
 have l1:=e1 0 16 b (by omega)
 have l2:=e1 2 0 (Ae 0 16 true b) (by omega)
 have h2:=J4 [b] (by simp;omega) (by simp)
 rw[show [b].flatten=b by simp] at h2
 have h3:=Hu 2 0 true [Ae 0 16 true b] (by omega) (by omega) (by simp;omega) (by simp)
 rw[show [Ae 0 16 true b].flatten=Ae 0 16 true b by simp] at h3
 have h4:=J4 [Ae 2 0 true (Ae 0 16 true b)] (by simp;omega) (by simp)
 rw[show [Ae 2 0 true (Ae 0 16 true b)].flatten=Ae 2 0 true (Ae 0 16 true b) by simp] at h4
 refine Bf 78 _ D3 mixed Tryz.func10 rfl (by kernel_rfl) rfl rfl rfl rfl fun W0 fp0 z0=> ?_
 have hg0:([gnV n l]:List Gn)[0]?=some (gnV n l):=rfl
 (repeat'((conv=>whnf);first|refine NBr.yes ?_|refine NBr.no ?_|refine NCall.eq (h0) (by rfl) ?_|refine NIdx.tab (fun _=>rfl) hg0 ?_|refine NIdx.at 0 ?_|refine NIdx.at 1 ?_|refine NCall.eq (h1) (by rfl) ?_|refine NCall.eq (h2) (by first|rfl|(simp only[AV.gives,AV.give,D.un,D.uns,Ai,List.nil_append];first|done|rfl)) ?_|refine NCall.eq (h3) (by first|rfl|(simp only[AV.gives,AV.give,D.un,D.uns,Ai,List.nil_append];first|done|rfl)) ?_|refine NCall.eq (h4) (by first|rfl|(simp only[AV.gives,AV.give,D.un,D.uns,Ai,List.nil_append];first|done|rfl)) ?_|(refine Or.inr ?_)|(refine NApp.at 1 _ ?_)|(refine NLoop.rounds 3 ?_)|(with_reducible refine NInt.i64 ?_)));(all_goals(conv=>whnf))
 all_goals(refine NEnd.eq ?_;(repeat'(first|exact trivial|exact Ak _|refine And.intro ?_ ?_|exact rfl)))
def Rl (nm:List UInt8) (g:Gn):Bool:=g.k==2&&Fu nm g.tx
def oF (g:Gn):Bool:=g.k==2
def M8 (P E:List Gn) (nm:List UInt8):Bool:= !(E.any (Rl nm))&&(P.any (Rl nm)|| !(P.any oF))
structure LOk (l:List Gn):Prop where
 n:l.length≤1000000000
 t:∀g∈l,g.tx.length≤16777216
theorem Lc (P E:List Gn) (nm:List UInt8) (hP:LOk P) (hE:LOk E) (hn:nm.length≤16777216):Aa Tryz.prog 19 [.agg [.d (Df P),.d (Df E)],sv nm] (fun r=>r=bv (M8 P E nm)):=by
 have hP1:=hP.n
 have hE1:=hE.n
 refine Bf 48 _ D3 mixed Tryz.func19 rfl (by kernel_rfl) rfl rfl rfl rfl fun W0 fp0 z0=> ?_
 (all_goals(conv=>whnf))
 refine NLoop.go (fun i:Nat=>i≤E.length∧(E.take i).any (Rl nm)=false) (fun i=>E.length-i) (fun i=>⟨[(1,sv nm),(2,.ptr 2 0),(12,.d (Df E)),(13,iv E.length),(14,iv i)],[(2,[.d (Df P),.d (Df E)])],[]⟩) 0 ⟨by omega,rfl⟩ (by((repeat'(first|exact trivial|exact Ak _|refine And.intro ?_ ?_)))) ?_
 rintro i ⟨hi,ha⟩
 by_cases hik:i<E.length
 ·obtain⟨g,hg⟩:∃p,E[i]?=some p:=⟨_,List.getElem?_eq_getElem hik⟩
  have hU:=Wk nm g.tx hn (hE.t g (List.mem_of_getElem? hg))
  cases hk:(g.k==2)
  ·have hs:Rl nm g=false:=by unfold Rl;rw[hk];rfl
   (repeat'((conv=>whnf);first|refine NBr.no ?_|refine NBr.neg (by assumption) ?_|refine NIdx.tab (fun _=>rfl) hg ?_|(with_reducible refine NInt.i64 ?_)|(refine NBr.dec (fun hc hcP=> ?_) (fun hc hcP=> ?_)<;>try(exfalso;omega))));(all_goals(conv=>whnf))
   refine⟨i+1,⟨by omega,by rw[Jf _ hg,ha,hs];rfl⟩,by omega,?_⟩
   ((repeat'(first|exact trivial|exact Ak _|refine And.intro ?_ ?_)))
  ·have hs:Rl nm g=Fu nm g.tx:=by unfold Rl;rw[hk];rfl
   cases hu:Fu nm g.tx
   ·rw[hu] at hs hU
    (repeat'((conv=>whnf);first|refine NBr.yes ?_|refine NBr.no ?_|refine NBr.pos (by assumption) ?_|refine NIdx.tab (fun _=>rfl) hg ?_|refine NCall.eq (hU) (by rfl) ?_|(with_reducible refine NInt.i64 ?_)|(refine NBr.dec (fun hc hcP=> ?_) (fun hc hcP=> ?_)<;>try(exfalso;omega))));(all_goals(conv=>whnf))
    refine⟨i+1,⟨by omega,by rw[Jf _ hg,ha,hs];rfl⟩,by omega,?_⟩
    ((repeat'(first|exact trivial|exact Ak _|refine And.intro ?_ ?_)))
   ·rw[hu] at hs hU
    rw[show M8 P E nm=false by unfold M8;rw[tQ _ hg hs];rfl]
    (repeat'((conv=>whnf);first|refine NBr.yes ?_|refine NBr.pos (by assumption) ?_|refine NIdx.tab (fun _=>rfl) hg ?_|refine NCall.eq (hU) (by rfl) ?_|(refine NBr.dec (fun hc hcP=> ?_) (fun hc hcP=> ?_)<;>try(exfalso;omega))));(all_goals(conv=>whnf))
    all_goals(refine NEnd.eq ?_;(repeat'(first|exact Ak _|refine And.intro ?_ ?_|exact rfl)))
 ·obtain rfl:i=E.length:=by omega
  rw[List.take_length] at ha
  (repeat'((conv=>whnf);(refine NBr.dec (fun hc hcP=> ?_) (fun hc hcP=> ?_)<;>try(exfalso;omega))));(all_goals(conv=>whnf))
  refine NLoop.go (fun i:Nat=>i≤P.length∧(P.take i).any (Rl nm)=false) (fun i=>P.length-i) (fun i=>⟨[(1,sv nm),(7,bv ((P.take i).any oF)),(8,bv false),(29,.d (Df P)),(30,iv P.length),(31,iv i)],[],[]⟩) 0 ⟨by omega,rfl⟩ (by((repeat'(first|exact trivial|exact Ak _|refine And.intro ?_ ?_)))) ?_
  rintro i ⟨hi,hb⟩
  by_cases hik:i<P.length
  ·obtain⟨g,hg⟩:∃p,P[i]?=some p:=⟨_,List.getElem?_eq_getElem hik⟩
   have hU:=Wk nm g.tx hn (hP.t g (List.mem_of_getElem? hg))
   have hne:(g.k !=2)= !(g.k==2):=rfl
   cases hk:(g.k==2)
   ·have hs:Rl nm g=false:=by unfold Rl;rw[hk];rfl
    have hd:oF g=false:=hk
    rw[hk] at hne
    replace hne:(g.k !=2)=true:=hne
    (repeat'((conv=>whnf);first|refine NBr.pos (by assumption) ?_|refine NIdx.tab (fun _=>rfl) hg ?_|(with_reducible refine NInt.i64 ?_)|(refine NBr.dec (fun hc hcP=> ?_) (fun hc hcP=> ?_)<;>try(exfalso;omega))));(all_goals(conv=>whnf))
    refine⟨i+1,⟨by omega,by rw[Jf _ hg,hb,hs];rfl⟩,by omega,?_⟩
    rw[Jf _ hg,hd,Bool.or_false]
    ((repeat'(first|exact trivial|exact Ak _|refine And.intro ?_ ?_)))
   ·have hs:Rl nm g=Fu nm g.tx:=by unfold Rl;rw[hk];rfl
    have hd:oF g=true:=hk
    rw[hk] at hne
    replace hne:(g.k !=2)=false:=hne
    cases hu:Fu nm g.tx
    ·rw[hu] at hs hU
     (repeat'((conv=>whnf);first|refine NBr.no ?_|refine NBr.neg (by assumption) ?_|refine NIdx.tab (fun _=>rfl) hg ?_|refine NCall.eq (hU) (by rfl) ?_|(with_reducible refine NInt.i64 ?_)|(refine NBr.dec (fun hc hcP=> ?_) (fun hc hcP=> ?_)<;>try(exfalso;omega))));(all_goals(conv=>whnf))
     refine⟨i+1,⟨by omega,by rw[Jf _ hg,hb,hs];rfl⟩,by omega,?_⟩
     rw[Jf _ hg,hd,Bool.or_true]
     ((repeat'(first|exact trivial|exact Ak _|refine And.intro ?_ ?_)))
    ·rw[hu] at hs hU
     rw[show M8 P E nm=true by unfold M8;rw[tQ _ hg hs,ha];rfl]
     (repeat'((conv=>whnf);first|refine NBr.yes ?_|refine NBr.neg (by assumption) ?_|refine NIdx.tab (fun _=>rfl) hg ?_|refine NCall.eq (hU) (by rfl) ?_|(refine NBr.dec (fun hc hcP=> ?_) (fun hc hcP=> ?_)<;>try(exfalso;omega))));(all_goals(conv=>whnf))
     all_goals(refine NEnd.eq ?_;(repeat'(first|exact Ak _|refine And.intro ?_ ?_|exact rfl)))
  ·obtain rfl:i=P.length:=by omega
   rw[List.take_length] at hb⊢
   have hr:M8 P E nm= !(P.any oF):=by unfold M8;rw[ha,hb];rfl
   rw[hr]
   cases hd:P.any oF
   all_goals
    (repeat'((conv=>whnf);first|refine NBr.no ?_|(refine NBr.dec (fun hc hcP=> ?_) (fun hc hcP=> ?_)<;>try(exfalso;omega))));(all_goals(conv=>whnf))
    all_goals(refine NEnd.eq ?_;(repeat'(first|exact Ak _|refine And.intro ?_ ?_|exact rfl)))
theorem oG (f:Bool) (g:Bool) (a b:List UInt8) (_:a.length≤1000000000) (_:b.length≤1000000000):Aa Tryz.prog 12 [.d (Ac f a),.d (Ac g b)] (fun r=>r=bv (a==b)):=by
 refine Bf 10 _ D3 mixed Tryz.func12 rfl (by kernel_rfl) rfl rfl rfl rfl fun W0 fp0 z0=> ?_
 (repeat'((conv=>whnf);(with_reducible refine NStr.go ?_)));(all_goals(conv=>whnf))
 all_goals(refine NEnd.eq ?_;(repeat'(first|exact Ak _|refine And.intro ?_ ?_|exact rfl)))
theorem DQ:Ae 0 16 true (Ae 2 0 true (Ae 0 16 true [130,1,97]))=[48,7,160,5,48,3,130,1,97]:=by
 rw[J8 0 16 true [130,1,97] (by decide),J8 2 0 true _ (by decide),J8 0 16 true _ (by decide)]
 decide
theorem Ow:Aa Tryz.prog 8 [] (fun r=>r=bv true):=by
 have hM:=Tm DO
 rw[DQ] at hM
 have hB:=oG false false [48,7,160,5,48,3,130,1,97] [48,7,160,5,48,3,130,1,97] (by decide) (by decide)
 have p1:=Lc [⟨2,[],[97],[],[],0,[],0,[]⟩] [] [98,46,65] ⟨by decide,by decide⟩ ⟨by decide,by simp⟩ (by decide)
 have p2:=Lc [⟨2,[],[97],[],[],0,[],0,[]⟩] [] [98,97] ⟨by decide,by decide⟩ ⟨by decide,by simp⟩ (by decide)
 have p3:=Lc [⟨2,[],[97],[],[],0,[],0,[]⟩] [] [98] ⟨by decide,by decide⟩ ⟨by decide,by simp⟩ (by decide)
 rw[show M8 [⟨2,[],[97],[],[],0,[],0,[]⟩] [] [98,46,65]=true by decide+kernel] at p1
 rw[show M8 [⟨2,[],[97],[],[],0,[],0,[]⟩] [] [98,97]=false by decide+kernel] at p2
 rw[show M8 [⟨2,[],[97],[],[],0,[],0,[]⟩] [] [98]=false by decide+kernel] at p3
 refine Bf 33 _ D3 mixed Tryz.func8 rfl (by kernel_rfl) rfl rfl rfl rfl fun W0 fp0 z0=> ?_
 (repeat'((conv=>whnf);first|refine NBr.yes ?_|(refine NCall.le (hM) ?_ ?_;focus((repeat'(first|exact trivial|exact Ak _|refine And.intro ?_ ?_|exact rfl|exact Or.inr rfl|refine Or.inr ?_));done))|(refine NCall.le (hB) ?_ ?_;focus((repeat'(first|exact trivial|exact Ak _|refine And.intro ?_ ?_));done))|(refine NCall.le (p1) ?_ ?_;focus((repeat'(first|exact trivial|exact Ak _|refine And.intro ?_ ?_|exact rfl|exact Or.inr rfl|refine Or.inr ?_));done))|(refine NCall.le (p2) ?_ ?_;focus((repeat'(first|exact trivial|exact Ak _|refine And.intro ?_ ?_|exact rfl|exact Or.inr rfl|refine Or.inr ?_));done))|(refine NCall.le (p3) ?_ ?_;focus((repeat'(first|exact trivial|exact Ak _|refine And.intro ?_ ?_|exact rfl|exact Or.inr rfl|refine Or.inr ?_));done))));(all_goals(conv=>whnf))
 all_goals(refine NEnd.eq ?_;(repeat'(first|exact Ak _|refine And.intro ?_ ?_|exact rfl)))
theorem Tn {W:World} {fp z:Nat→Nat→Prop} {w':World} {b:Bool} {v:Value} (h:Ja W fp z w' (bv b) v):v= .bool b:=by
 obtain⟨-,fp,gt,z,-,h,-⟩:=h
 cases h with
 |d h=>cases h;rfl
theorem gK {s:ByteArray} (h:s.size≤maxLen):s.data.toList.length≤big:=by
 have:s.data.toList.length=s.size:=by simp
 rw[this];exact h
end Go.Proofs.YtgmbmfoabndmoaaGreatDoor
namespace Go.Proofs.YtgmbmfoabndmoaaGreatDoor
open Go.ChangeShapes Go.WideShapes Go.ChangeAt Go.RowKit
theorem Hv {H:Type} {enc:TypeId×Value→H} {a:Assume} {C:Checked} {os:Os} {f:FuncId} {fn:Func} {s:ChangeSpec} {conds:List PathCond} {apart fresh handsOn again:Bool} {X:World→Array Value→Prop}
 (hX:∀(w w':World) (args:Array Value),w.heap=w'.heap→X w args→X w' args)
 (own:ownKnob C.prog.godebug=none) (started:os.Started) (noInit:C.prog.inits.idxOf? f=none) (hfn:C.prog.funcs[f]?=some fn)
 (witness:∃(w:World) (tape:Tape) (i:Input),w.os=os∧(w.forCall tape i).Shaped C.prog∧i.vars=[]∧Input.okWide C.prog (w.forCall tape i) .any w.heap.size f i∧
   ((s.pre enc C.prog fn conds apart (w.forCall tape i).memory i.args∧X (w.forCall tape i).memory i.args)∧sizedMet enc C.prog fn (OpenSpec.ofChange s) apart (w.forCall tape i).memory i.args)∧a.holds C.prog (lone (Frame.enter C.prog f i.args .normal) [] (w.forCall tape i)))
 (contract:∀(W:World) (base:Nat) (args:Array Value) (ds gs:List (DataW H)) (before:List MemPlace),
   (∀(j:Nat) t v,fn.params[j]?=some t→args[j]?=some v→Value.okWide C.prog W .any base t v)→
   DataW.Whole enc C.prog fn.params.toList s.vars apart W args.toList ds gs before→W.ShapedOpen C.prog→X W args→
   Calls C.prog f args W fun e W'=>∃v,e= .returned v∧s.post enc C.prog fn apart fresh handsOn again W args v W'):
 ReturnsInHanded a C os f .any (fun w args=>(s.pre enc C.prog fn conds apart w args∧X w args)∧sizedMet enc C.prog fn (OpenSpec.ofChange s) apart w args) (s.post enc C.prog fn apart fresh handsOn again):=by
 refine returnsInHanded_of_calls own started noInit witness ?_
 intro w tape i _ hsh _ hok hpre hholds
 obtain⟨_,_,_,fn',hfn',_,_,_,_,hval⟩:=hok
 have e:fn'=fn:=Option.some.inj (hfn'.symm.trans hfn)
 subst e
 obtain⟨⟨⟨ds,gs,before,hw,hc⟩,hx⟩,hz⟩:=hpre
 have hw':=DataW.Whole.of_heap (w':=w.forCall tape i) (by rfl) hw
 refine(contract (w.forCall tape i) w.heap.size i.args ds gs before hval hw' hsh (hX _ _ _ (by rfl) hx)).mono fun e W' ⟨v,he,hp⟩=> ?_
 subst he
 exact ChangeSpec.post_blind hp
theorem own:ownKnob Tryz.prog.godebug=none:=by kernel_rfl
def Di:List (String×DataW Unit):=[("math/bits.deBruijn32tab",Rows.laid_math_bits_deBruijn32tab),("math/bits.deBruijn64tab",Rows.laid_math_bits_deBruijn64tab),("internal/strconv.uint64pow10",Rows.laid_internal_strconv_uint64pow10),("unicode/utf8.acceptRanges",Rows.laid_unicode_utf8_acceptRanges),("strconv.ErrRange",Rows.laid_strconv_ErrRange),("strconv.ErrSyntax",Rows.laid_strconv_ErrSyntax),("unicode/utf8.first",Rows.laid_unicode_utf8_first)]
theorem Ld (os:Os) (args:Array Value):laidMetH Tryz.prog Di ((World.laidAll Tryz.prog os Di).forCall (fun _ _=>0) ⟨#[],args,[]⟩).memory:=by
 rw[MakeChecks.laidMetH_plain _ _ _ (by kernel_rfl)]
 exact laidMet_laidAll _ (by kernel_rfl) (by kernel_rfl)
theorem jY {w:World} {n nm:String} {d:DataW Unit} {g t:Nat} {ms:Array (String×TypeId)} (hg:Tryz.prog.globalNamed n=some g) (hty:(Tryz.prog.globals[g]?).map (·.type)=some t) (ht:Tryz.prog.underlying t=some (.interface ms)) (h:Lib.VarReads Tryz.prog w n (.iface nm d)):lY g w:=by
 obtain⟨g',t',cs,fuel,p,e1,e2,e3,e4⟩:=h
 obtain rfl:=Option.some.inj (hg.symm.trans e1)
 obtain rfl:=Option.some.inj (hty.symm.trans e2)
 cases fuel with
 |zero=>simp[DataW.trod] at e4
 |succ fuel=>
  obtain⟨l⟩:=cs
  have hc:=World.var?_cell hg e3 0
  match l,e4,hc with
  |[],e4,_=>simp[DataW.trod,ht] at e4
  |[v],e4,hc=>
   refine⟨v,by simpa using hc,?_⟩
   cases v<;>first|exact .inr ⟨_,_,rfl⟩|(simp[DataW.trod,ht] at e4;done)
  |a::b::r,e4,_=>simp[DataW.trod,ht] at e4
theorem tS {w:World} {n:String} {k:IntKind} {zs:List Int} {g t e:TypeId} {m:Nat} (hg:Tryz.prog.globalNamed n=some g) (hty:(Tryz.prog.globals[g]?).map (·.type)=some t) (ht:Tryz.prog.underlying t=some (.array m e)) (he:Tryz.prog.underlying e=some (.int k)) (hce:Tryz.prog.cellsOf e=1) (hct:Tryz.prog.cellsOf t=m) (h:Lib.VarReads Tryz.prog w n (Lib.tabData k zs)):Lib.TabIs Tryz.prog w n k zs:=by
 obtain⟨g',t',cs,fuel,p,e1,e2,e3,e4⟩:=h
 obtain rfl:=Option.some.inj (hg.symm.trans e1)
 obtain rfl:=Option.some.inj (hty.symm.trans e2)
 unfold Lib.TabIs
 rw[e3,←Lib.cells_of_tab ht he hce hct e4]
theorem oH:(Rows.laid_unicode_utf8_acceptRanges:DataW Unit)=Lib.acceptData:=by kernel_rfl
theorem DR:(Rows.laid_internal_strconv_uint64pow10:DataW Unit)=Lib.tabData .u64 Lib.pow10Tab:=by kernel_rfl
theorem Hw {W:World} (hsh:W.ShapedOpen Tryz.prog) (h:laidMetH Tryz.prog Di W):Gd W:=by
 rw[MakeChecks.laidMetH_plain _ _ _ (by kernel_rfl)] at h
 have r3:=Lib.laidMet.reads h (n:= "internal/strconv.uint64pow10") (d:=Rows.laid_internal_strconv_uint64pow10) (by simp[Di])
 have r1:=Lib.laidMet.reads h (n:= "unicode/utf8.acceptRanges") (d:=Rows.laid_unicode_utf8_acceptRanges) (by simp[Di])
 have r5:=Lib.laidMet.reads h (n:= "strconv.ErrRange") (d:=Rows.laid_strconv_ErrRange) (by simp[Di])
 have r6:=Lib.laidMet.reads h (n:= "strconv.ErrSyntax") (d:=Rows.laid_strconv_ErrSyntax) (by simp[Di])
 have r2:=Lib.laidMet.reads h (n:= "unicode/utf8.first") (d:=Rows.laid_unicode_utf8_first) (by simp[Di])
 rw[oH] at r1
 rw[DR] at r3
 rw[show(Rows.laid_unicode_utf8_first:DataW Unit)=Lib.firstData from Pinned.utf8First_eq] at r2
 exact⟨utf8Tabs_of_readsT (U8Types.of196 Tryz.laysValid) ⟨by kernel_rfl,by kernel_rfl,by kernel_rfl,by kernel_rfl,by kernel_rfl,by kernel_rfl,by kernel_rfl⟩ r2 r1,
  tS (g:=4) (t:=256) (e:=146) (m:=20) (by kernel_rfl) (by kernel_rfl) Tryz.underlying256 Tryz.underlying146 (by kernel_rfl) (by kernel_rfl) r3,
  jY (g:=2) (t:=173) (by kernel_rfl) (by kernel_rfl) Tryz.underlying173 r6,
  jY (g:=3) (t:=173) (by kernel_rfl) (by kernel_rfl) Tryz.underlying173 r5,
  cell_of_shapedOpen_int (zero:=#[.int .i64 0]) (t:=3) hsh (of_decide_eq_true (by kernel_rfl)) (by kernel_rfl) rfl (by kernel_rfl) (by kernel_rfl) Tryz.underlying3⟩
end Go.Proofs.YtgmbmfoabndmoaaGreatDoor
