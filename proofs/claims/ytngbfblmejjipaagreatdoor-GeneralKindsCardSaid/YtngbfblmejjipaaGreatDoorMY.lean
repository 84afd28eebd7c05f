/- MY: the texts KnP KnR Srt KnG, one behind the other. No condition but what each lemma says. -/
import Derived.Test.YtngbfblmejjipaaGreatDoorMR
import Derived.Test.YtngbfblmejjipaaGreatDoorMT
import Derived.Shelf.Slices.CompactI
import Derived.Sort.OwnSorted
import Derived.Test.YtngbfblmejjipaaGreatDoorShelfK
import Derived.Test.YtngbfblmejjipaaGreatDoorMU
set_option maxRecDepth 100000
set_option maxHeartbeats 16000000
namespace Go.Proofs.YtngbfblmejjipaaGreatDoor
open Go.RowKit
def knO (n:Int):List D:=[iD n]
def D5 (out:List Int) (k:Int):Bool:=match out.getLast? with
 |none=>true
 |some b=>decide (b<k)
def bst (K out:List Int):Nat→Int
 |0=> -1
 |i+1=>if D5 out (K.getD i 0)=true∧(bst K out i<0∨K.getD i 0<K.getD (bst K out i).toNat 0) then i else bst K out i
theorem Qg (K out:List Int):∀i,-1≤bst K out i∧bst K out i<i
 |0=>by simp[bst]
 |i+1=>by
  have:=Qg K out i
  unfold bst
  split<;>omega
theorem Qh (K out:List Int):∀i,bst K out i<0→∀j,j<i→D5 out (K.getD j 0)=false
 |0,_,j,hj=>by omega
 |i+1,h,j,hj=>by
  unfold bst at h
  split at h
  ·omega
  ·rename_i hn
   by_cases hji:j<i
   ·exact Qh K out i h j hji
   ·obtain rfl:j=i:=by omega
    cases hc:D5 out (K.getD j 0)
    ·rfl
    ·exact absurd ⟨hc,.inl h⟩ hn
theorem Lk (K out:List Int):∀i,0≤bst K out i→D5 out (K.getD (bst K out i).toNat 0)=true∧∀j,j<i→D5 out (K.getD j 0)=true→K.getD (bst K out i).toNat 0≤K.getD j 0
 |0,h=>by simp[bst] at h
 |i+1,h=>by
  unfold bst at h⊢
  split
  ·rename_i hn
   rw[if_pos hn] at h
   refine⟨by simpa using hn.1,fun j hj hc=> ?_⟩
   rw[Int.toNat_natCast]
   by_cases hji:j<i
   ·rcases hn.2 with hb|hb
    ·rw[Qh K out i hb j hji] at hc;cases hc
    ·by_cases h0:bst K out i<0
     ·rw[Qh K out i h0 j hji] at hc;cases hc
     ·have:=(Lk K out i (by omega)).2 j hji hc
      omega
   ·obtain rfl:j=i:=by omega
    exact Int.le_refl _
  ·rename_i hn
   rw[if_neg hn] at h
   obtain⟨h1,h2⟩:=Lk K out i h
   refine⟨h1,fun j hj hc=> ?_⟩
   by_cases hji:j<i
   ·exact h2 j hji hc
   ·obtain rfl:j=i:=by omega
    by_cases hb:bst K out j<0
    ·exact absurd ⟨hc,.inl hb⟩ hn
    ·by_cases hk:K.getD j 0<K.getD (bst K out j).toNat 0
     ·exact absurd ⟨hc,.inr hk⟩ hn
     ·omega
structure Sel (K out:List Int):Prop where
 asc:out.Pairwise (· < ·)
 mem:∀k∈out,k∈K
 all:∀k∈K,D5 out k=false→k∈out
theorem Sel.nil (K:List Int):Sel K []:=⟨.nil,(fun k h=>by cases h),(fun k _ h=>by simp[D5] at h)⟩
theorem Sel.done {K out:List Int} (h:Sel K out) (hb:bst K out K.length<0):∀k,k∈out↔k∈K:=fun k=>⟨h.mem k,fun hk=>by
 obtain⟨j,hj,rfl⟩:=List.getElem_of_mem hk
 have:=Qh K out K.length hb j hj
 rw[List.getD_eq_getElem?_getD,List.getElem?_eq_getElem hj,Option.getD_some] at this
 exact h.all _ hk this⟩
theorem Sel.next {K out:List Int} (h:Sel K out) (hb:0≤bst K out K.length):Sel K (out++[K.getD (bst K out K.length).toNat 0]):=by
 obtain⟨h1,h2⟩:=Lk K out K.length hb
 have hi:=(Qg K out K.length).2
 have hlt:(bst K out K.length).toNat<K.length:=by omega
 generalize hm:K.getD (bst K out K.length).toNat 0=m at h1 h2
 have hmem:m∈K:=by
  rw[←hm,List.getD_eq_getElem?_getD,List.getElem?_eq_getElem hlt,Option.getD_some]
  exact List.getElem_mem hlt
 have hlast:∀k∈out,k<m:=by
  intro k hk
  unfold D5 at h1
  cases hl:out.getLast? with
  |none=>rw[List.getLast?_eq_none_iff] at hl;rw[hl] at hk;cases hk
  |some b=>
   rw[hl] at h1
   have hbm:b<m:=of_decide_eq_true h1
   obtain⟨init,rfl⟩:∃init,out=init++[b]:=by
    rw[List.getLast?_eq_some_iff] at hl;exact hl
   have:=List.pairwise_append.1 h.asc
   rcases List.mem_append.1 hk with hk|hk
   ·have:=this.2.2 k hk b (by simp)
    omega
   ·rw[List.mem_singleton] at hk;omega
 refine⟨?_,?_,?_⟩
 ·exact List.pairwise_append.2 ⟨h.asc,List.pairwise_singleton _ _,fun a ha b hb=>by rw[List.mem_singleton] at hb;subst hb;exact hlast a ha⟩
 ·intro k hk
  rcases List.mem_append.1 hk with hk|hk
  ·exact h.mem k hk
  ·rw[List.mem_singleton] at hk;rw[hk];exact hmem
 ·intro k hk hc
  unfold D5 at hc
  rw[List.getLast?_append,List.getLast?_singleton] at hc
  simp only[Option.some_or,decide_eq_false_iff_not] at hc
  rw[List.mem_append,List.mem_singleton]
  cases hc0:D5 out k
  ·exact .inl (h.all k hk hc0)
  ·right
   obtain⟨j,hj,e⟩:=List.getElem_of_mem hk
   have:=h2 j hj (by rw[List.getD_eq_getElem?_getD,List.getElem?_eq_getElem hj,Option.getD_some,e];exact hc0)
   rw[List.getD_eq_getElem?_getD,List.getElem?_eq_getElem hj,Option.getD_some,e] at this
   omega
theorem Qi:∀{a b:List Int},a.Pairwise (· < ·)→b.Pairwise (· < ·)→(∀k,k∈a↔k∈b)→a=b
 |[],[],_,_,_=>rfl
 |[],y::b,_,_,h=>by have:=(h y).2 (by simp);cases this
 |x::a,[],_,_,h=>by have:=(h x).1 (by simp);cases this
 |x::a,y::b,ha,hb,h=>by
  rw[List.pairwise_cons] at ha hb
  have hxy:x=y:=by
   have h1:=(h x).1 (by simp)
   have h2:=(h y).2 (by simp)
   rw[List.mem_cons] at h1 h2
   rcases h1 with h1|h1
   ·exact h1
   ·rcases h2 with h2|h2
    ·exact h2.symm
    ·have:=ha.1 y h2
     have:=hb.1 x h1
     omega
  subst hxy
  rw[Qi ha.2 hb.2 fun k=> ?_]
  have hk:=h k
  rw[List.mem_cons,List.mem_cons] at hk
  constructor
  ·intro m
   rcases hk.1 (.inr m) with e|e
   ·have:=ha.1 k m;omega
   ·exact e
  ·intro m
   rcases hk.2 (.inr m) with e|e
   ·have:=hb.1 k m;omega
   ·exact e
theorem Qj {α:Type} {p q:α→Bool} {l:List α} (h:∀x∈l,p x=true→q x=true) {y:α} (hy:y∈l) (hq:q y=true) (hp:p y=false):(l.filter p).length<(l.filter q).length:=by
 induction l with
 |nil=>cases hy
 |cons a r ih=>
  have hle:(r.filter p).length≤(r.filter q).length:=by
   clear ih hy
   induction r with
   |nil=>exact Nat.le_refl _
   |cons b s ih=>
    have:=ih fun x hx=>h x (by rcases List.mem_cons.1 hx with rfl|hx;exact List.mem_cons_self;exact List.mem_cons_of_mem _ (List.mem_cons_of_mem _ hx))
    have hb:=h b (by simp)
    rw[List.filter_cons,List.filter_cons]
    cases hpb:p b
    ·cases hqb:q b<;>simp<;>omega
    ·rw[hb hpb];simp;omega
  have ha:=h a (by simp)
  rw[List.filter_cons,List.filter_cons]
  rcases List.mem_cons.1 hy with rfl|hy
  ·rw[hp,hq];simp;omega
  ·have:=ih (fun x hx=>h x (List.mem_cons_of_mem _ hx)) hy
   cases hpa:p a
   ·cases hqa:q a<;>simp<;>omega
   ·rw[ha hpa];simp;omega
theorem Sel.fewer {K out:List Int} (_:Sel K out) (hb:0≤bst K out K.length) (hc:out.length+(K.filter (D5 out)).length≤K.length):(out++[K.getD (bst K out K.length).toNat 0]).length+(K.filter (D5 (out++[K.getD (bst K out K.length).toNat 0]))).length≤K.length:=by
 obtain⟨h1,h2⟩:=Lk K out K.length hb
 have hi:=(Qg K out K.length).2
 have hlt:(bst K out K.length).toNat<K.length:=by omega
 have hmem:K.getD (bst K out K.length).toNat 0∈K:=by
  rw[List.getD_eq_getElem?_getD,List.getElem?_eq_getElem hlt,Option.getD_some]
  exact List.getElem_mem hlt
 generalize K.getD (bst K out K.length).toNat 0=m at h1 h2 hmem⊢
 have hcm:∀k,D5 (out++[m]) k=decide (m<k):=fun k=>by
  unfold D5;rw[List.getLast?_append,List.getLast?_singleton];rfl
 have:=Qj (p:=D5 (out++[m])) (q:=D5 out) (l:=K) (fun x _ hx=>by
  rw[hcm,decide_eq_true_eq] at hx
  unfold D5 at h1⊢
  cases hl:out.getLast? with
  |none=>rfl
  |some b=>rw[hl] at h1;exact decide_eq_true (Int.lt_trans (of_decide_eq_true h1) hx)) hmem h1 (by rw[hcm];exact decide_eq_false (by omega))
 rw[List.length_append,List.length_singleton];omega
abbrev knT (out:List Int):AV:=Ey 3 1 3 knO out
theorem Qk (l:List Gn) (hl:l.length≤1000000) (o:List Int) (ho:o.Pairwise (· < ·)) (hm:∀k,k∈o↔k∈l.map (·.k)):Ab Tryz.prog 33 [.d (K5 l)] (fun r=>r= .d (C5 true 1 knO o)):=by
 obtain⟨K,hK⟩:∃K,K=l.map (·.k):=⟨_,rfl⟩
 rw[←hK] at hm
 have hKl:K.length=l.length:=by rw[hK,List.length_map]
 have hget:∀(i:Nat) g,l[i]?=some g→K.getD i 0=g.k:=fun i g hg=>by
  rw[hK,List.getD_eq_getElem?_getD,List.getElem?_map,hg];rfl
 clear hK
 refine acQ 56 Tryz.func33 rfl rfl fun _ _ _=> ?_
 (all_goals(conv=>whnf))
 refine NLoop.goA [.s 3 1 3] (fun out:List Int=>Sel K out∧out.length+(K.filter (D5 out)).length≤K.length) (fun out=>K.length-out.length) (fun out=>⟨[(0,.d (K5 l)),(3,knT out)],[],[(3,(out.length,1,3))]⟩) [] ⟨Sel.nil K,by simp only[List.length_nil,Nat.zero_add];exact List.length_filter_le _ _⟩ leQ ?_
 rintro out ⟨hS,hc⟩
 (all_goals(conv=>whnf))
 refine NLoop.go (fun i:Nat=>i≤l.length) (fun i=>l.length-i) (fun i=>⟨[(0,.d (K5 l)),(3,knT out),(4,iv (bst K out i)),(5,iv i)],[],[(3,(out.length,1,3))]⟩) 0 (by omega) leQ ?_
 intro i hi
 have hb:=Qg K out i
 by_cases hik:i<l.length
 ·have gi:decide ((i:Int)<l.length)=true:=decide_eq_true (by omega)
  obtain⟨g,hg⟩:∃p,l[i]?=some p:=⟨_,List.getElem?_eq_getElem hik⟩
  have hk:=hget i g hg
  have hs:bst K out (i+1)=if D5 out g.k=true∧(bst K out i<0∨g.k<K.getD (bst K out i).toNat 0) then(i:Int) else bst K out i:=by rw[←hk];rfl
  have hidx:0≤bst K out i→∃h,l[(bst K out i).toNat]?=some h∧K.getD (bst K out i).toNat 0=h.k:=fun h0=>by
   have hlt:(bst K out i).toNat<l.length:=by omega
   exact⟨_,List.getElem?_eq_getElem hlt,hget _ _ (List.getElem?_eq_getElem hlt)⟩
  generalize bst K out i=t at hb hs hidx
  cases hla:out.getLast? with
  |none=>
   have hca:D5 out g.k=true:=by unfold D5;rw[hla]
   rw[List.getLast?_eq_none_iff] at hla
   subst hla
   rw[hca] at hs
   by_cases ht:t<0
   ·have gt:=decide_eq_true ht
    rw[if_pos ⟨rfl,.inl ht⟩] at hs
    (repeat'((conv=>whnf);first|refine NBr.pos asQ ?_|refine NBr.yes ?_|refine NBr.no ?_|(with_reducible refine NInt.i64 ?_)|refine NFact.go ⟨by decide+kernel,by kernel_rfl⟩ ?_));(all_goals(conv=>whnf))
    refine⟨i+1,by omega,by omega,?_⟩
    rw[hs]
    exact leQ
   ·have gt:=decide_eq_false ht
    obtain⟨h,hh,hhk⟩:=hidx (by omega)
    rw[hhk] at hs
    by_cases hlt:g.k<h.k
    ·have gl:=decide_eq_true hlt
     rw[if_pos ⟨rfl,.inr hlt⟩] at hs
     (repeat'((conv=>whnf);first|refine NBr.pos asQ ?_|refine NBr.neg asQ ?_|refine NBr.no ?_|refine NIdx.tab (fun _=>rfl) hg ?_|refine NIdx.tab (fun _=>rfl) hh ?_|(with_reducible refine NInt.i64 ?_)|refine NFact.go ⟨by decide+kernel,by kernel_rfl⟩ ?_));(all_goals(conv=>whnf))
     refine⟨i+1,by omega,by omega,?_⟩
     rw[hs]
     exact leQ
    ·have gl:=decide_eq_false hlt
     rw[if_neg (by rintro⟨-,h|h⟩<;>contradiction)] at hs
     (repeat'((conv=>whnf);first|refine NBr.pos asQ ?_|refine NBr.neg asQ ?_|refine NBr.no ?_|refine NIdx.tab (fun _=>rfl) hg ?_|refine NIdx.tab (fun _=>rfl) hh ?_|(with_reducible refine NInt.i64 ?_)|refine NFact.go ⟨by decide+kernel,by kernel_rfl⟩ ?_));(all_goals(conv=>whnf))
     refine⟨i+1,by omega,by omega,?_⟩
     rw[hs]
     exact leQ
  |some b=>
   have hol:0<out.length:=by cases out with|nil=>cases hla|cons x r=>simp
   have g0:decide ((out.length:Int)>0)=true:=decide_eq_true (by omega)
   have hlb:out[out.length-1]?=some b:=by rw[←hla,List.getLast?_eq_getElem?]
   have hcl:out.length≤1000000:=by omega
   by_cases hkb:g.k≤b
   ·have gk:=decide_eq_true hkb
    have hca:D5 out g.k=false:=by unfold D5;rw[hla];exact decide_eq_false (by omega)
    rw[hca,if_neg (by rintro⟨h,-⟩;cases h)] at hs
    (repeat'((conv=>whnf);first|refine NBr.pos asQ ?_|refine NIdx.tab (fun _=>rfl) hg ?_|refine NInt.as (((out.length-1:Nat):Int)) ((by rw[IntWalk.i64_in _ (by omega)];omega)) ?_|refine NIdx.tab (fun _=>rfl) hlb ?_|(with_reducible refine NInt.i64 ?_)|refine NFact.go ⟨by decide+kernel,by kernel_rfl⟩ ?_));(all_goals(conv=>whnf))
    refine⟨i+1,by omega,by omega,?_⟩
    rw[hs]
    exact leQ
   ·have gk:=decide_eq_false hkb
    have hca:D5 out g.k=true:=by unfold D5;rw[hla];exact decide_eq_true (by omega)
    rw[hca] at hs
    by_cases ht:t<0
    ·have gt:=decide_eq_true ht
     rw[if_pos ⟨rfl,.inl ht⟩] at hs
     (repeat'((conv=>whnf);first|refine NBr.pos asQ ?_|refine NBr.neg asQ ?_|refine NBr.yes ?_|refine NIdx.tab (fun _=>rfl) hg ?_|refine NInt.as (((out.length-1:Nat):Int)) ((by rw[IntWalk.i64_in _ (by omega)];omega)) ?_|refine NIdx.tab (fun _=>rfl) hlb ?_|(with_reducible refine NInt.i64 ?_)|refine NFact.go ⟨by decide+kernel,by kernel_rfl⟩ ?_));(all_goals(conv=>whnf))
     refine⟨i+1,by omega,by omega,?_⟩
     rw[hs]
     exact leQ
    ·have gt:=decide_eq_false ht
     obtain⟨h,hh,hhk⟩:=hidx (by omega)
     rw[hhk] at hs
     by_cases hlt:g.k<h.k
     ·have gl:=decide_eq_true hlt
      rw[if_pos ⟨rfl,.inr hlt⟩] at hs
      (repeat'((conv=>whnf);first|refine NBr.pos asQ ?_|refine NBr.neg asQ ?_|refine NIdx.tab (fun _=>rfl) hg ?_|refine NInt.as (((out.length-1:Nat):Int)) ((by rw[IntWalk.i64_in _ (by omega)];omega)) ?_|refine NIdx.tab (fun _=>rfl) hlb ?_|refine NIdx.tab (fun _=>rfl) hh ?_|(with_reducible refine NInt.i64 ?_)|refine NFact.go ⟨by decide+kernel,by kernel_rfl⟩ ?_));(all_goals(conv=>whnf))
      refine⟨i+1,by omega,by omega,?_⟩
      rw[hs]
      exact leQ
     ·have gl:=decide_eq_false hlt
      rw[if_neg (by rintro⟨-,h|h⟩<;>contradiction)] at hs
      (repeat'((conv=>whnf);first|refine NBr.pos asQ ?_|refine NBr.neg asQ ?_|refine NIdx.tab (fun _=>rfl) hg ?_|refine NInt.as (((out.length-1:Nat):Int)) ((by rw[IntWalk.i64_in _ (by omega)];omega)) ?_|refine NIdx.tab (fun _=>rfl) hlb ?_|refine NIdx.tab (fun _=>rfl) hh ?_|(with_reducible refine NInt.i64 ?_)|refine NFact.go ⟨by decide+kernel,by kernel_rfl⟩ ?_));(all_goals(conv=>whnf))
      refine⟨i+1,by omega,by omega,?_⟩
      rw[hs]
      exact leQ
 ·have gi:decide ((i:Int)<l.length)=false:=decide_eq_false (by omega)
  obtain rfl:i=K.length:=by omega
  by_cases ht:bst K out K.length<0
  ·have gt:=decide_eq_true ht
   obtain rfl:out=o:=Qi hS.asc ho fun k=>(hS.done ht k).trans (hm k).symm
   (repeat'((conv=>whnf);first|refine NBr.pos asQ ?_|refine NBr.neg asQ ?_));(all_goals(conv=>whnf))
   all_goals exact NEnd.eq leQ
  ·have gt:=decide_eq_false ht
   have hn:=hS.next (by omega)
   have hf:=hS.fewer (by omega) hc
   obtain⟨h,hh,hhk⟩:∃h,l[(bst K out K.length).toNat]?=some h∧K.getD (bst K out K.length).toNat 0=h.k:=by
    have hlt:(bst K out K.length).toNat<l.length:=by omega
    exact⟨_,List.getElem?_eq_getElem hlt,hget _ _ (List.getElem?_eq_getElem hlt)⟩
   rw[hhk] at hn hf
   have hl2:out.length+1≤K.length:=by rw[List.length_append,List.length_singleton] at hf;omega
   generalize bst K out K.length=t at*
   (repeat'((conv=>whnf);first|refine NBr.neg asQ ?_|refine NIdx.tab (fun _=>rfl) hh ?_|refine NApp.one knO h.k ?_));(all_goals(conv=>whnf))
   refine⟨out++[h.k],⟨hn,hf⟩,by rw[List.length_append,List.length_singleton];omega,?_⟩
   exact leQ
abbrev D8:Int→Value:=Value.int .i64
abbrev Nh (k:Nat) (e:TypeId) (l:List Int):AV:=Ey k 1 e knO l
theorem Ni (l:List Int):l.flatMap knO=l.map iD:=by
 induction l with
 |nil=>rfl
 |cons x r ih=>rw[List.flatMap_cons,ih];rfl
theorem jY {B:Nat} {fp:Nat→Nat→Prop} {w:World} {l:List Int} {g c:Nat} (h1:l.length≤c) (h2:c≤maxLen) (hB:B≤g) (hfp:∀i,i<l.length→fp g i) (hc:∀i b,l[i]?=some b→w.cell? ⟨g,i,none⟩=some (D8 b)):Rd B fp w (.sl true l.length 1 (l.flatMap knO)) (.slice (some ⟨g,0,none⟩) l.length c):=by
 rw[Ni]
 refine .sl (l.map D8) h1 h2 (by rw[List.length_map];omega) (by rw[List.length_map,List.length_map]) (fun h=>by cases h) (fun u hu=> ?_) (fun i d u hd hu=> ?_) (fun i u hu=> ?_)
 ·obtain⟨b,-,rfl⟩:=List.mem_map.1 hu
  rfl
 ·rw[List.getElem?_map,Option.map_eq_some_iff] at hd
  rw[List.getElem?_map,Option.map_eq_some_iff] at hu
  obtain⟨b,hb,rfl⟩:=hd
  obtain⟨b',hb',rfl⟩:=hu
  rw[hb] at hb';cases hb'
  exact .v _
 ·rw[List.getElem?_map,Option.map_eq_some_iff] at hu
  obtain⟨b,hb,rfl⟩:=hu
  have hlt:=(List.getElem?_eq_some_iff.1 hb).1
  exact⟨g,0,rfl,by rw[Nat.zero_add];exact hfp i hlt,fun _=>hB,by rw[Nat.zero_add];exact hc i b hb⟩
section
variable {P:Program} {C:Cx} {o:Oper} {σ:AS} {t:Nat}
theorem Sw {f:FuncId} {e:TypeId} {x:Operand} {ats:Array TypeId} {k n2:Nat} {l l':List Int} {res:Value→Value} {tm':List (Nat×AV)} (hcall:∀vs w,(callFunc f vs).run P w= .ok (.enter f vs) w) (ho:o.op= .call {callee:= .value (.func f),args:=#[x],argTypes:=ats}) (hd:o.dst=some t) (ht:t<C.N)
 (hC:∀g cap w,Sort.Holds D8 w g 0 l.toArray→g<w.heap.size→l.length≤cap→Calls P f #[.slice (some ⟨g,0,none⟩) l.length cap] w fun e w'=>e= .returned (res (.slice (some ⟨g,0,none⟩) n2 cap))∧∃n os,w'=Sort.grow (Sort.putRow D8 (Sort.ahead w n) g 0 l'.toArray) os)
 (hll:l'.length=l.length) (hn2:n2≤l.length) (hx:σ.eval x=some (Nh k e l)) (hk:lk k σ.tk=some (l.length,1,e)) (h0:0<l.length)
 (hp:∀s u,lk s tm'=some u→(s≠t∧∃y,u= .d (.v y)∧lk s σ.tm=some u)∨(s≠t∧u=Nh k e (l'.take n2)∧lk s σ.tm=some (Nh k e l)∧n2=l.length)∨(s=t∧u=Nh k e (l'.take n2)∧∀v,res v=v)):
 Aw P C o σ ⟨tm',[],[(k,(l'.take n2).length,1,e)]⟩:=by
 have hlen:(l'.take n2).length=n2:=by rw[List.length_take];omega
 rw[hlen]
 rintro a w ⟨bm,gt,fp,hg⟩ K Q hK
 have h1:=hg.eval hx
 generalize hv:a.eval x=v at h1
 cases h1 with
 |own h1=>
  obtain⟨xs,hxs,hown⟩:=(hg.tk k _ _ _ hk).own
  rcases hown with⟨hvn,hn⟩|⟨g,cap,cur,hvg,hBg,hheap,hnc,hcm,hcs,htk⟩
  ·omega
  have hcell:∀i b,l[i]?=some b→w.cell? ⟨g,i,none⟩=some (D8 b):=fun i b hb=>by
   rw[Ni,hvg] at h1
   cases h1 with
   |sl us e1 e2 e3 e4 e5 e6 e7 e8=>
    have hi:=(List.getElem?_eq_some_iff.1 hb).1
    have hu:i<us.length:=by rw[e4,List.length_map];exact hi
    obtain⟨b',o',q1,-,-,q4⟩:=e8 i us[i] (List.getElem?_eq_getElem hu)
    have q5:=e7 i (iD b) us[i] (by rw[List.getElem?_map,hb];rfl) (List.getElem?_eq_getElem hu)
    cases q1
    rw[Nat.zero_add] at q4
    rw[q4]
    generalize us[i]=y at q5
    cases q5
    rfl
  have hgs:g<w.heap.size:=(Array.getElem?_eq_some_iff.1 hheap).1
  have hH:Sort.Holds D8 w g 0 l.toArray:=fun j hj=>by
   have hj':j<l.length:=by simpa using hj
   refine⟨?_,frozen_of_row w g _ cur e hheap⟩
   rw[Nat.zero_add,hcell j l[j] (List.getElem?_eq_getElem hj')]
   rw[getElem!_pos l.toArray j hj]
   simp
  have hR:=hC g cap w hH hgs (by omega)
  have hrun:(execOp a.eval o).run P w= .ok (.enter f #[gt k]) w:=by
   simp only[execOp,ho,resolve,Deferred.ofValue,Act.eval,invoke,Sem.run_bind,Sem.run_pure,Result.andThen_ok,hcall]
   simp[hv]
  unfold Oper.wp
  rw[hrun,Oper.upon_enter,hvg]
  refine hR.mono ?_
  rintro e' w' ⟨rfl,m,os,rfl⟩
  simp only[]
  rw[hd]
  obtain⟨v',hv'⟩:∃v',v'=Value.slice (some ⟨g,0,none⟩) n2 cap:=⟨_,rfl⟩
  rw[←hv']
  obtain⟨W5,hW5⟩:∃W5,Sort.grow (Sort.putRow D8 (Sort.ahead w m) g 0 l'.toArray) os=W5:=⟨_,rfl⟩
  have hsz5:w.heap.size≤W5.heap.size:=by rw[←hW5];simp[Sort.grow]
  have hblk:∀b,b<w.heap.size→b≠g→W5.heap[b]?=w.heap[b]?:=fun b hlt hb=>by
   rw[←hW5,Sort.heap_grow_old _ _ (by rw[Sort.size_putRow,Sort.heap_ahead];exact hlt)]
   simp only[Sort.putRow,Sort.mapBlock,Array.getElem?_modify,Sort.heap_ahead]
   rw[if_neg (Ne.symm hb)]
  have hself:W5.heap[g]?=some (.cells (Sort.putCells D8 0 l'.toArray cur) e (0,0)):=by
   rw[←hW5,Sort.heap_grow_old _ _ (by rw[Sort.size_putRow,Sort.heap_ahead];exact hgs)]
   simp only[Sort.putRow,Sort.mapBlock,Array.getElem?_modify,Sort.heap_ahead,hheap,if_true]
   rfl
  have hnew:∀i b,l'[i]?=some b→W5.cell? ⟨g,i,none⟩=some (D8 b):=fun i b hb=>by
   have hi:i<l'.length:=(List.getElem?_eq_some_iff.1 hb).1
   have:=Sort.cell?_putRow D8 (Sort.ahead w m) g 0 l.toArray l'.toArray (Sort.holds_ahead D8 w m g 0 _ hH) (by simpa using hll) i (by simpa using hi)
   rw[Nat.zero_add] at this
   rw[←hW5,Sort.cell?_grow _ _ _ (by rw[Sort.size_putRow,Sort.heap_ahead];exact hgs),this,getElem!_pos l'.toArray i (by simpa using hi)]
   have h2:=(List.getElem?_eq_some_iff.1 hb).2
   simp at h2⊢
   rw[h2]
  have hRd:Rd C.W.heap.size (fun b o'=>(C.fp0 b o'∨C.z0 b o')∨(b=g∧o'<n2)) W5 (.sl true (l'.take n2).length 1 ((l'.take n2).flatMap knO)) v':=by
   have:=jY (l:=l'.take n2) (c:=cap) (fp:=fun b o'=>(C.fp0 b o'∨C.z0 b o')∨(b=g∧o'<n2)) (by rw[hlen];omega) hcm hBg (fun i hi=> .inr ⟨rfl,by rw[hlen] at hi;exact hi⟩) (fun i b hb=>hnew i b (by
    rw[List.getElem?_take] at hb
    split at hb
    ·exact hb
    ·cases hb))
   rw[hv']
   rw[hlen] at this⊢
   exact this
  have hbel:Below C.W.heap.size w W5:=by
   rw[←hW5]
   exact⟨rfl,rfl,rfl,by rw[hW5];exact hsz5,fun b hb=>by rw[hW5];exact hblk b (by have:=hg.bel.size;omega) (by omega)⟩
  refine hK _ _ ⟨⟨bm.m,C.z0⟩,C9 gt k v',fun b o'=>(C.fp0 b o'∨C.z0 b o')∨(b=g∧o'<n2),?_⟩
  rw[hW5]
  refine{sz:=by simp[Act.put,hg.sz],nN:=hg.nN,gd:= ?_,za:=fun _ _ x=>x,zb:=fun _ _ x=> .inl x,zf:=fun _ _ x=> .inl (.inr x),ztk:=fun k' x hk' g' hg' o' hz=> ?_,df:=hg.df,tm:=fun s u hu=> ?_,bx:=fun k' cs hk'=>(by cases hk'),bxi:=fun k1 k2 c1 c2 hk1=>(by cases hk1),tk:=fun k' n' sz' e' hk'=> ?_,tki:=fun k1 k2 x1 x2 hk1 hk2 _ _=> ?_,tkb:=fun k1 k2 x1 c1 hk1 hk2=>(by cases hk2),fpb:=fun b o' hf=> ?_,fp0:=fun b o' hf=> .inl (.inl hf),fpB:=hg.fpB,bel:=hg.bel.trans hbel}
  ·exact hg.gd
  ·by_cases ek:k=k'
   ·subst ek
    rw[Ak,hv'] at hg'
    exact hg.ztk k _ hk g' (by rw[hvg];exact hg') o' (hg.za g' o' hz)
   ·rw[Av _ _ ek] at hk';cases hk'
  ·rcases hp s u hu with⟨hst,y,rfl,h2⟩|⟨hst,rfl,h2,he⟩|⟨hst,rfl,hr⟩
   ·obtain⟨v0,h3,h4⟩:=hg.tm s _ h2
    refine⟨v0,by rw[←h3];simp only[Cx.val,Act.put];rw[Array.getElem?_setIfInBounds_ne (Ne.symm hst)],?_⟩
    rw[h4.val];exact .d (.v _)
   ·obtain⟨v0,h3,h4⟩:=hg.tm s _ h2
    refine⟨v',?_,?_⟩
    ·have hvv:v0=v':=by
      generalize hgk:gt k=z at*
      cases h4 with
      |own h4=>rw[hgk,hvg,hv',he]
     rw[←hvv,←h3];simp only[Cx.val,Act.put];rw[Array.getElem?_setIfInBounds_ne (Ne.symm hst)]
    ·have:=RA.own (bm:=⟨bm.m,C.z0⟩) (gt:=C9 gt k v') (k:=k) (e:=e) (by rw[Ak];exact hRd)
     rw[Ak] at this
     exact this
   ·subst hst
    refine⟨v',?_,?_⟩
    ·have hsz:s<a.tmps.size:=by rw[hg.sz];exact ht
     rw[hr,Cx.val_lt (Nat.lt_of_lt_of_le ht hg.nN)]
     simp[Act.put,hsz]
    ·have:=RA.own (bm:=⟨bm.m,C.z0⟩) (gt:=C9 gt k v') (k:=k) (e:=e) (by rw[Ak];exact hRd)
     rw[Ak] at this
     exact this
  ·by_cases ek:k=k'
   ·subst ek
    rw[Aq] at hk'
    cases hk'
    rw[Ak]
    refine⟨⟨(Sort.putCells D8 0 l'.toArray cur).toList.take (n2*1),?_,.inr ⟨g,cap,_,hv',hBg,hself,by omega,hcm,?_,rfl⟩⟩,?_⟩
    ·rw[List.length_take];simp[Sort.putCells,hcs];omega
    ·simp[Sort.putCells,hcs]
    ·intro g' hg' o' ho'
     rw[hv'] at hg'
     cases hg'
     rintro((hf|hf)|⟨-,hf⟩)
     ·have h9:g<C.W.heap.size:=hg.fpB _ _ hf
      omega
     ·exact hg.ztk k _ hk g (by rw[hvg];rfl) _ (hg.za _ _ hf)
     ·omega
   ·rw[Av _ _ ek] at hk';cases hk'
  ·by_cases e1:k=k1
   ·by_cases e2:k=k2
    ·exact e1.symm.trans e2
    ·rw[Av _ _ e2] at hk2;cases hk2
   ·rw[Av _ _ e1] at hk1;cases hk1
  ·rcases hf with(hf|hf)|⟨rfl,hf⟩
   ·exact⟨.inl hf,by have:=hg.fpB _ _ hf;have:=hg.bel.size;omega⟩
   ·have:=hg.fpb _ _ (hg.zf _ _ (hg.za _ _ hf))
    exact⟨this.1,by omega⟩
   ·exact⟨.inr hBg,by omega⟩
theorem Vl {f:FuncId} {e:TypeId} {x:Operand} {ats:Array TypeId} {k:Nat} {l S:List Int} {tm':List (Nat×AV)} (hcall:∀vs w,(callFunc f vs).run P w= .ok (.enter f vs) w) (ho:o.op= .call {callee:= .value (.func f),args:=#[x],argTypes:=ats}) (hd:o.dst=some t) (ht:t<C.N)
 (hC:∀g cap w,Sort.Holds D8 w g 0 l.toArray→g<w.heap.size→Calls P f #[.slice (some ⟨g,0,none⟩) l.length cap] w fun e w'=>e= .returned (.tuple #[])∧∃n os,w'=Sort.grow (Sort.putRow D8 (Sort.ahead w n) g 0 (l.mergeSort fun x y=>decide (x≤y)).toArray) os)
 (hS:S=l.mergeSort fun x y=>decide (x≤y)) (hx:σ.eval x=some (Nh k e l)) (hk:lk k σ.tk=some (l.length,1,e)) (h0:0<l.length)
 (hp:∀s u,lk s tm'=some u→s≠t∧((∃y,u= .d (.v y)∧lk s σ.tm=some u)∨(u=Nh k e S∧lk s σ.tm=some (Nh k e l)))):Aw P C o σ ⟨tm',[],[(k,S.length,1,e)]⟩:=by
 have hl:S.length=l.length:=by rw[hS,List.length_mergeSort]
 have hta:S.take l.length=S:=List.take_of_length_le (by omega)
 have:=Sw (l':=S) (n2:=l.length) (res:=fun _=> .tuple #[]) (tm':=tm') hcall ho hd ht (fun g cap w h1 h2 _=>by rw[hS];exact hC g cap w h1 h2) hl (Nat.le_refl _) hx hk h0 (fun s u hu=>by
  obtain⟨h1,h2|⟨h2,h3⟩⟩:=hp s u hu
  ·exact .inl ⟨h1,h2⟩
  ·exact .inr (.inl ⟨h1,by rw[hta];exact h2,h3,rfl⟩))
 rwa[hta] at this
theorem Vm {f:FuncId} {e:TypeId} {x:Operand} {ats:Array TypeId} {k:Nat} {l:List Int} (hcall:∀vs w,(callFunc f vs).run P w= .ok (.enter f vs) w) (ho:o.op= .call {callee:= .value (.func f),args:=#[x],argTypes:=ats}) (hd:o.dst=some t) (ht:t<C.N)
 (hC:∀g cap w,Sort.Holds D8 w g 0 l.toArray→l.length≤cap→Calls P f #[.slice (some ⟨g,0,none⟩) l.length cap] w fun e w'=>e= .returned (.slice (some ⟨g,0,none⟩) (Lib.compact l).length cap)∧∃q,w'=Sort.putRow D8 (Sort.ahead w q) g 0 (Lib.compact l++List.replicate (l.length-(Lib.compact l).length) 0).toArray)
 (hle:(Lib.compact l).length≤l.length) (hx:σ.eval x=some (Nh k e l)) (hk:lk k σ.tk=some (l.length,1,e)) (h0:0<l.length):Aw P C o σ ⟨[(t,Nh k e (Lib.compact l))],[],[(k,(Lib.compact l).length,1,e)]⟩:=by
 have hta:(Lib.compact l++List.replicate (l.length-(Lib.compact l).length) 0).take (Lib.compact l).length=Lib.compact l:=List.take_left
 have:=Sw (l':=Lib.compact l++List.replicate (l.length-(Lib.compact l).length) 0) (n2:=(Lib.compact l).length) (res:=fun v=>v) (tm':=[(t,Nh k e (Lib.compact l))]) hcall ho hd ht (fun g cap w h1 h2 h3=>(hC g cap w h1 h3).mono (by
  rintro e' w' ⟨rfl,q,rfl⟩
  exact⟨rfl,q,#[],(Sort.grow_empty _).symm⟩)) (by rw[List.length_append,List.length_replicate];omega) hle hx hk h0 (fun s u hu=>by
  by_cases h:t=s
  ·subst h
   rw[Aq] at hu
   cases hu
   exact .inr (.inr ⟨rfl,by rw[hta],fun _=>rfl⟩)
  ·rw[Av _ _ h] at hu;cases hu)
 rwa[hta] at this
end
theorem Oy {d:Array Int} {n:Nat} (hd:∀i j,i≤j→j<n→d[i]!≤d[j]!):∀m,m≤n→(Lib.compactUpTo d m).Pairwise (· < ·)∧(∀k,k∈Lib.compactUpTo d m↔∃j,j<m∧d[j]! =k)
 |0,_=>⟨by simp[Lib.compactUpTo],fun k=>by simp[Lib.compactUpTo]⟩
 |m+1,hm=>by
  obtain⟨h1,h2⟩:=Oy hd m (by omega)
  rw[Lib.compactUpTo_succ]
  by_cases hk:Lib.keeps d m=true
  ·rw[if_pos hk]
   refine⟨List.pairwise_append.2 ⟨h1,List.pairwise_singleton _ _,fun a ha b hb=> ?_⟩,fun k=> ?_⟩
   ·rw[List.mem_singleton] at hb
    subst hb
    obtain⟨j,hj,rfl⟩:=(h2 a).1 ha
    have hne:d[m]!≠d[m-1]!:=by
     have:=of_decide_eq_true hk
     rcases this with h|h
     ·omega
     ·exact h
    have e1:=hd j (m-1) (by omega) (by omega)
    have e2:=hd (m-1) m (by omega) (by omega)
    omega
   ·rw[List.mem_append,List.mem_singleton,h2]
    constructor
    ·rintro(⟨j,hj,e⟩|e)
     ·exact⟨j,by omega,e⟩
     ·exact⟨m,by omega,e.symm⟩
    ·rintro⟨j,hj,e⟩
     by_cases hjm:j=m
     ·subst hjm;exact .inr e.symm
     ·exact .inl ⟨j,by omega,e⟩
  ·rw[if_neg hk,List.append_nil]
   refine⟨h1,fun k=> ?_⟩
   rw[h2]
   have hne:m≠0∧d[m]! =d[m-1]!:=by
    refine⟨fun h=>hk (by subst h;exact Lib.keeps_lt_one d 0 (by omega)),?_⟩
    by_cases he:d[m]! =d[m-1]!
    ·exact he
    ·exact absurd (Lib.keeps_pos he) hk
   constructor
   ·rintro⟨j,hj,e⟩
    exact⟨j,by omega,e⟩
   ·rintro⟨j,hj,e⟩
    by_cases hjm:j=m
    ·subst hjm;exact⟨j-1,by omega,by rw[←hne.2];exact e⟩
    ·exact⟨j,by omega,e⟩
theorem Hh {zs:List Int} (h:zs.Pairwise (· ≤ ·)):(Lib.compact zs).Pairwise (· < ·)∧(∀k,k∈Lib.compact zs↔k∈zs):=by
 have hg:∀(i:Nat) (hi:i<zs.length),zs.toArray[i]! =zs[i]:=fun i hi=>by rw[getElem!_pos zs.toArray i (by simpa using hi)];simp
 obtain⟨h1,h2⟩:=Oy (d:=zs.toArray) (n:=zs.length) (fun i j hij hj=>by
  rw[hg i (by omega),hg j hj]
  by_cases e:i=j
  ·subst e;exact Int.le_refl _
  ·exact List.pairwise_iff_getElem.1 h i j (by omega) hj (by omega)) zs.length (Nat.le_refl _)
 refine⟨h1,fun k=> ?_⟩
 show k∈Lib.compactUpTo zs.toArray zs.length↔_
 rw[h2,List.mem_iff_getElem]
 constructor
 ·rintro⟨j,hj,e⟩
  exact⟨j,hj,by rw[←hg j hj];exact e⟩
 ·rintro⟨j,hj,e⟩
  exact⟨j,hj,by rw[hg j hj];exact e⟩
theorem eX (d:Array Int) (m:Nat):(Lib.compactUpTo d m).length≤m:=by
 unfold Lib.compactUpTo
 rw[List.length_map]
 exact Nat.le_trans (List.length_filter_le _ _) (by rw[List.length_range];exact Nat.le_refl _)
theorem K1 (zs:List Int):(zs.mergeSort fun x y=>decide (x≤y)).Pairwise (· ≤ ·):=by
 have:=List.pairwise_mergeSort (le:=fun x y:Int=>decide (x≤y)) (fun a b c h1 h2=>by simp at*;omega) (fun a b=>by simp;omega) zs
 exact this.imp fun h=>of_decide_eq_true h
theorem Ql {zs o:List Int} (ho:o.Pairwise (· < ·)) (hm:∀k,k∈o↔k∈zs):Lib.compact (zs.mergeSort fun x y=>decide (x≤y))=o:=by
 obtain⟨h1,h2⟩:=Hh (K1 zs)
 refine Qi h1 ho fun k=> ?_
 rw[h2,List.mem_mergeSort,hm]
def oF (ms:List Nat):Tab:=⟨tyL,fdL,stL,ms++muL,0⟩
theorem mU (ms:List Nat):TabOk Tryz.prog (oF ms) where
 ty:=fun h=>L8.ty h
 fd:=fun h1 h2=>L8.fd h1 h2
 st:=fun h=>L8.st h
theorem Xf (l:List Int):D.uns (l.flatMap knO)=l.flatMap knO:=by
 rw[Ni]
 induction l with
 |nil=>rfl
 |cons x r ih=>rw[List.map_cons,D.uns,ih];rfl
theorem mV (t:Bool) (l:List Int):(C5 t 1 knO l).un=C5 false 1 knO l:=by
 show D.sl false l.length 1 (D.uns (l.flatMap knO))=_
 rw[Xf]
theorem Z2:Ab Tryz.prog 61 [Be] (fun r=>r= .tup []):=by
 refine .of Tryz.func61 (by kernel_rfl) rfl rfl fun w fp0 bm gt vs hG hr=> ?_
 match vs,hr with
 |[a],hr=>
  rw[hr.1.val]
  refine(Tryz.slices_Sort_int_none none 0 w).mono ?_
  rintro e w' ⟨rfl,rfl⟩
  exact⟨_,rfl,Below.refl _ _,fun fp _ _ bm gt=> .tup [] rfl (fun i u v h=>by simp at h)⟩
theorem Z3:Ab Tryz.prog 62 [Be] (fun r=>r=Be):=by
 refine .of Tryz.func62 (by kernel_rfl) rfl rfl fun w fp0 bm gt vs hG hr=> ?_
 match vs,hr with
 |[a],hr=>
  rw[hr.1.val]
  refine(Tryz.slices_Compact_int_empty none 0 w).mono ?_
  rintro e w' ⟨rfl,rfl⟩
  exact⟨_,rfl,Below.refl _ _,fun fp _ _ bm gt=> .d (.v _)⟩
theorem Qm (l:List Gn) (hl:l.length≤1000000) (o:List Int) (ho:o.Pairwise (· < ·)) (hm:∀k,k∈o↔k∈l.map (·.k)):Ab Tryz.prog 32 [.d (K5 l)] (fun r=>r= .d (C5 true 1 knO o)):=by
 by_cases h0:l=[]
 ·subst h0
  obtain rfl:o=[]:=by
   cases o with
   |nil=>rfl
   |cons x r=>have:=(hm x).1 (by simp);simp at this
  have hS:=Z2
  have hC:=Z3
  refine acQ 22 Tryz.func32 rfl rfl fun _ _ _=> ?_
  (all_goals(conv=>whnf))
  refine NLoop.go (fun i:Nat=>i=0) (fun i=>i) (fun i=>⟨[(3,Be),(6,.d (K5 [])),(7,iv 0),(8,iv 0)],[],[]⟩) 0 rfl leQ ?_
  rintro i rfl
  (repeat'((conv=>whnf);first|refine NBr.no ?_|refine NCall.eq hS rfl ?_|refine NCall.eq hC rfl ?_));(all_goals(conv=>whnf))
  all_goals exact NEnd.eq leQ
 ·have hpos:0<l.length:=List.length_pos_iff.2 h0
  obtain⟨K,hK⟩:∃K,K=l.map (·.k):=⟨_,rfl⟩
  rw[←hK] at hm
  have hKl:K.length=l.length:=by rw[hK,List.length_map]
  have hCo:=Ql ho hm
  have hCl:=eX (K.mergeSort fun x y=>decide (x≤y)).toArray (K.mergeSort fun x y=>decide (x≤y)).length
  have hSl:(K.mergeSort fun x y=>decide (x≤y)).length=K.length:=List.length_mergeSort _
  refine N6 22 _ (mU [61,62]) mixed Tryz.func32 rfl (by kernel_rfl) rfl rfl rfl rfl fun W0 fp0 z0=> ?_
  (all_goals(conv=>whnf))
  refine NLoop.goA [.s 3 1 3] (fun i:Nat=>i≤l.length) (fun i=>l.length-i) (fun i=>⟨[(3,Ey 3 1 3 knO (K.take i)),(6,.d (K5 l)),(7,iv l.length),(8,iv i)],[],[(3,((K.take i).length,1,3))]⟩) 0 (by omega) leQ ?_
  intro i hi
  have hil:(K.take i).length≤1000000:=by rw[List.length_take];omega
  by_cases hik:i<l.length
  ·have gi:decide ((i:Int)<l.length)=true:=decide_eq_true (by omega)
   obtain⟨g,hg⟩:∃p,l[i]?=some p:=⟨_,List.getElem?_eq_getElem hik⟩
   have hs:K.take (i+1)=K.take i++[g.k]:=by
    have:=M3 (fun g:Gn=>g.k) hg
    rw[hK,←List.map_take,←List.map_take];exact this
   generalize K.take i=a at hil hs
   (repeat'((conv=>whnf);first|refine NBr.pos asQ ?_|refine NIdx.tab (fun _=>rfl) hg ?_|refine NApp.one knO g.k ?_|(with_reducible refine NInt.i64 ?_)));(all_goals(conv=>whnf))
   refine⟨i+1,by omega,by omega,?_⟩
   rw[hs]
   exact leQ
  ·have gi:decide ((i:Int)<l.length)=false:=decide_eq_false (by omega)
   obtain rfl:i=l.length:=by omega
   have ht:K.take l.length=K:=List.take_of_length_le (by omega)
   rw[ht]
   clear ht hil hK
   (repeat'((conv=>whnf);refine NBr.neg asQ ?_));(all_goals(conv=>whnf))
   refine NStep.go (Vl (l:=K) (S:=K.mergeSort fun x y=>decide (x≤y)) (tm':=[(3,Nh 3 3 (K.mergeSort fun x y=>decide (x≤y)))]) (F8 Tryz.func61 (by kernel_rfl) rfl) rfl rfl (ltN rfl) (fun g cap w h1 h2=>Tryz.slices_Sort_int g 0 cap K w h1 h2 (by omega)) rfl rfl rfl (by omega) (fun s u hu=>by
    by_cases h3:3=s
    ·subst h3
     rw[Aq] at hu
     cases hu
     exact⟨by decide,.inr ⟨rfl,rfl⟩⟩
    ·rw[Av _ _ h3] at hu;cases hu)) ?_
   generalize hS:(K.mergeSort fun x y=>decide (x≤y))=S at hCo hCl hSl⊢
   (all_goals(conv=>whnf))
   refine NStep.go (Vm (l:=S) (F8 Tryz.func62 (by kernel_rfl) rfl) rfl rfl (ltN rfl) (fun g cap w h1 h2=>Tryz.slices_Compact_int g 0 cap S w h1 (by omega) h2) hCl rfl rfl (by omega)) ?_
   rw[hCo]
   (all_goals(conv=>whnf))
   all_goals exact NEnd.eq leQ
theorem Z4 (o:List Int) (h:o.length≤1000000):Ab Tryz.prog 31 [.d (C5 false 1 knO o),.d (C5 false 1 knO o)] (fun r=>r=bv true):=by
 refine acQ 32 Tryz.func31 rfl rfl fun _ _ _=> ?_
 (all_goals(conv=>whnf))
 refine NLoop.go (fun i:Nat=>i≤o.length) (fun i=>o.length-i) (fun i=>⟨[(0,.d (C5 false 1 knO o)),(1,.d (C5 false 1 knO o)),(5,iv i)],[],[]⟩) 0 (by omega) leQ ?_
 intro i hi
 by_cases hik:i<o.length
 ·have gi:decide ((i:Int)<o.length)=true:=decide_eq_true (by omega)
  obtain⟨x,hx⟩:∃p,o[i]?=some p:=⟨_,List.getElem?_eq_getElem hik⟩
  have gx:(x !=x)=false:=by simp
  (repeat'((conv=>whnf);first|refine NBr.pos asQ ?_|refine NBr.neg asQ ?_|refine NBr.yes ?_|refine NIdx.tab (fun _=>rfl) hx ?_|(with_reducible refine NInt.i64 ?_)|refine NFact.go ⟨by decide+kernel,by kernel_rfl⟩ ?_));(all_goals(conv=>whnf))
  refine⟨i+1,by omega,by omega,?_⟩
  exact leQ
 ·have gi:decide ((i:Int)<o.length)=false:=decide_eq_false (by omega)
  have gl:((o.length:Int)==o.length)=true:=by simp
  (repeat'((conv=>whnf);first|refine NBr.neg asQ ?_|refine NBr.no ?_));(all_goals(conv=>whnf))
  all_goals(refine NEnd.eq ?_;(repeat'(first|refine And.intro ?_ ?_|exact rfl));(all_goals(conv=>whnf)))
  all_goals exact gl
theorem Vn {p:Prop} (h:p:=by first|rfl|(simp only[AV.gives,AV.ren,AV.give,D.un,D.uns,Ai,An,List.nil_append,List.append_nil,List.cons_append,A3,Dt,Hw,Dd,Ci,Ge,Fe,Gi,D2,Ey,H4,jW,jS,mV,Xf];first|done|rfl)):p:=h
theorem eZ (l:List Gn) (h:l.length≤big):Ab Tryz.prog 11 [.d (K5 l)] (fun r=>r=bv true):=by
 have hA:=jX
 unfold big at h
 by_cases h1:(l.length:Int)>200
 ·have g1:decide ((l.length:Int)>200)=true:=decide_eq_true h1
  refine acQ 16 Tryz.func11 rfl rfl fun _ _ _=> ?_
  (repeat'((conv=>whnf);first|refine NBr.pos asQ ?_|refine NBr.no ?_|refine NCall.eq hA rfl ?_));(all_goals(conv=>whnf))
  all_goals exact NEnd.eq leQ
 have g1:decide ((l.length:Int)>200)=false:=decide_eq_false h1
 obtain⟨c1,c2⟩:=Hh (K1 (l.map (·.k)))
 have hcl:=eX ((l.map (·.k)).mergeSort fun x y=>decide (x≤y)).toArray ((l.map (·.k)).mergeSort fun x y=>decide (x≤y)).length
 rw[List.length_mergeSort,List.length_map] at hcl
 have hol:(Lib.compact ((l.map (·.k)).mergeSort fun x y=>decide (x≤y))).length≤1000000:=by
  have:(Lib.compact ((l.map (·.k)).mergeSort fun x y=>decide (x≤y)))=Lib.compactUpTo ((l.map (·.k)).mergeSort fun x y=>decide (x≤y)).toArray ((l.map (·.k)).mergeSort fun x y=>decide (x≤y)).length:=rfl
  rw[this,List.length_mergeSort,List.length_map];omega
 generalize Lib.compact ((l.map (·.k)).mergeSort fun x y=>decide (x≤y))=o at c1 c2 hol
 have hm:∀k,k∈o↔k∈l.map (·.k):=fun k=>by rw[c2,List.mem_mergeSort]
 have hG:=Qm l (by omega) o c1 hm
 have hR:=Qk l (by omega) o c1 hm
 have hI:=Z4 o hol
 refine acQ 16 Tryz.func11 rfl rfl fun _ _ _=> ?_
 (repeat'((conv=>whnf);first|refine NBr.neg asQ ?_|refine NBr.no ?_|refine NCall.eq hA rfl ?_|refine NCall.eq hG Vn ?_|refine NCall.eq hR Vn ?_|refine NCall.eq hI Vn ?_));(all_goals(conv=>whnf))
 all_goals exact NEnd.eq leQ
end Go.Proofs.YtngbfblmejjipaaGreatDoor
