/- GBase: the texts Base, one behind the other. No condition but what each lemma says. -/
import Derived.Test.YtokmjjkbginodaaGreatDoorGUtf
import Derived.WalkKit
import Derived.WalkSpells
import Derived.WalkLawsBesides
import Derived.Laws.EntriesVeiled
import Derived.Laws.BytesArg
import Derived.Laws.AppendOwnNone
import Derived.Lib.ConvBytes
import Derived.Lib.Builder
namespace Go.Proofs.YtokmjjkbginodaaGreatDoor
open Go.RowKit
def G1 (S:Nat→Prop) (w:World) (v:Value) (n sz:Nat) (cs:List Value):Prop:=
 ∃a c,v= .slice a n c∧n≤c∧c≤maxLen∧(cs.length=n*sz∧(a=none→c=0))∧
  ∀i u,cs[i]?=some u→∃b o,a=some ⟨b,o,none⟩∧S b∧w.cell? ⟨b,o+i,none⟩=some u
theorem Co {w:World} {a:Addr} {u:Value} (h:w.cell? a=some u):a.block<w.heap.size:=World.block_lt_of_cell? w a h
theorem G1.keep {S:Nat→Prop} {w w':World} {v:Value} {n sz:Nat} {cs:List Value} (h:G1 S w v n sz cs)
 (hk:∀b,S b→b<w.heap.size→w'.heap[b]?=w.heap[b]?):G1 S w' v n sz cs:=by
 obtain⟨a,c,hv,h1,h2,h3,h4⟩:=h
 refine⟨a,c,hv,h1,h2,h3,fun i u hu=> ?_⟩
 obtain⟨b,o,e1,e2,e3⟩:=h4 i u hu
 refine⟨b,o,e1,e2,?_⟩
 rw[←e3]
 exact World.cell?_of_block (hk b e2 (Co e3))
theorem G1.below {S:Nat→Prop} {w w':World} {v:Value} {n sz:Nat} {cs:List Value} (h:G1 S w v n sz cs)
 (hb:Below w.heap.size w w'):G1 S w' v n sz cs:=h.keep fun b _ hlt=>hb.block b hlt
theorem G1.mono {S S':Nat→Prop} {w:World} {v:Value} {n sz:Nat} {cs:List Value} (h:G1 S w v n sz cs)
 (hs:∀b,b<w.heap.size→S b→S' b):G1 S' w v n sz cs:=by
 obtain⟨a,c,hv,h1,h2,h3,h4⟩:=h
 refine⟨a,c,hv,h1,h2,h3,fun i u hu=> ?_⟩
 obtain⟨b,o,e1,e2,e3⟩:=h4 i u hu
 exact⟨b,o,e1,hs b (Co e3) e2,e3⟩
theorem iP {w w':World} {base:Nat} {e:TypeId} {size:Nat} {v:Value} {n:Nat} {xs:List Value} (h:w.ownsRow base e size v n xs)
 (hb:Below w.heap.size w w'):w'.ownsRow base e size v n xs:=
 h.kept (row:=none) ⟨hb.os,hb.tape,hb.output,hb.size,fun k hk _=>hb.block k hk⟩ (by cases v.ownBlock<;>simp)
theorem G1.of_owns {w:World} {base:Nat} {e:TypeId} {sz:Nat} {v:Value} {n:Nat} {cs:List Value} (h:w.ownsRow base e sz v n cs):
 G1 (fun b=>base≤b∧some b=v.ownBlock) w v n sz cs:=by
 rcases h with⟨hl,⟨rfl,rfl⟩|⟨g,cap,cur,rfl,hb,hg,h1,h2,h3,h4⟩⟩
 ·have:cs=[]:=List.eq_nil_of_length_eq_zero (by simpa using hl)
  subst this
  exact⟨none,0,rfl,Nat.le_refl _,Nat.zero_le _,⟨hl,fun _=>rfl⟩,fun i u hu=>by simp at hu⟩
 ·refine⟨_,cap,rfl,h1,h2,⟨hl,fun h=>by cases h⟩,fun i u hu=>⟨g,0,rfl,⟨hb,rfl⟩,?_⟩⟩
  rw[cell_of_row w g (0+i) cur e (0,0) hg,Nat.zero_add]
  rw[←h4,List.getElem?_take] at hu
  split at hu
  ·simpa using hu
  ·cases hu
theorem G1.sub {P:Program} {S:Nat→Prop} {w:World} {v:Value} {n sz:Nat} {cs:List Value} (h:G1 S w v n sz cs)
 (t e:TypeId) (ht:P.underlying t=some (.slice e)) (hsz:∀w,(sizeOf e).run P w= .ok sz w) (lo hi:Nat) (hl:lo≤hi) (hh:hi≤n):
 ∃v',(∀w,(Instr.slice t v (some (.int .i64 lo)) (some (.int .i64 hi)) none).run P w= .ok v' w)∧G1 S w v' (hi-lo) sz ((cs.drop (lo*sz)).take ((hi-lo)*sz)):=by
 obtain⟨a,c,rfl,h1,h2,h3,h4⟩:=h
 refine⟨.slice (if c=lo then a else a.map (·.add (lo*sz))) (hi-lo) (c-lo),fun w=> ?_,?_⟩
 ·have q2:hi≤c:=by omega
  simp[Instr.slice,Instr.sliceBounds,Instr.sliceBound,go_sem,run_underlying ht,hsz,hl,q2]
 ·refine⟨_,_,rfl,by omega,by omega,⟨?_,fun hn=> ?_⟩,?_⟩
  ·rw[Al,Az,h3.1,Nat.min_eq_left]
   rw[←Nat.sub_mul]
   exact Nat.mul_le_mul_right _ (by omega)
  ·split at hn
   ·omega
   ·rw[Option.map_eq_none_iff] at hn
    have:=h3.2 hn
    omega
  ·intro i u hu
   rw[List.getElem?_take] at hu
   split at hu
   ·rename_i hi'
    rw[List.getElem?_drop] at hu
    obtain⟨b,o,rfl,e2,e3⟩:=h4 _ _ hu
    have hne:¬c=lo:=by
     intro e
     have:hi-lo=0:=by omega
     rw[this] at hi'
     simp at hi'
    refine⟨b,o+lo*sz,?_,e2,?_⟩
    ·simp only[if_neg hne,Option.map_some,Option.some.injEq]
     unfold Addr.add
     split
     ·rename_i hz;rw[hz];rfl
     ·rfl
    ·rw[Nat.add_assoc];exact e3
   ·cases hu
abbrev Dg (S:Nat→Prop) (w:World) (v:Value) (l:List UInt8):Prop:=G1 S w v l.length 1 (Lib.byteCells l)
theorem F7 (l:List UInt8) (i:Nat):(Lib.byteCells l)[i]?=(l[i]?).map fun x=>Value.int .u8 x.toNat:=by
 simp[Lib.byteCells]
theorem J4 (l:List UInt8):(Lib.byteCells l).length=l.length:=by simp[Lib.byteCells]
theorem KF (S:Nat→Prop) (w:World):Dg S w (.slice none 0 0) []:=
 ⟨none,0,rfl,Nat.le_refl _,Nat.zero_le _,⟨rfl,fun _=>rfl⟩,fun i u hu=>by simp[Lib.byteCells] at hu⟩
theorem Dg.string {P:Program} {S:Nat→Prop} {w:World} {v:Value} {l:List UInt8} (h:Dg S w v l)
 (src dst e:TypeId) (hs:P.underlying src=some (.slice e)) (he:P.underlying e=some (.int .u8)) (hd:P.underlying dst=some .string):
 (convert src dst v).run P w= .ok (.string ⟨l.toArray⟩) w:=by
 obtain⟨a,c,rfl,h1,h2,h3,h4⟩:=h
 cases l with
 |nil=>
  show(convert src dst (.slice a 0 c)).run P w=_
  rw[run_convert_bytes_string w src dst e a 0 c hs he hd]
  cases a with
  |none=>simp[Conv.bytesToString];rfl
  |some ad=>rw[run_bytesToString w ad 0 c [] (by simp[loadCells,go_sem])];rfl
 |cons x l=>
  obtain⟨b,o,rfl,_,_⟩:=h4 0 (.int .u8 x.toNat) (by simp[Lib.byteCells])
  have:=run_convert_bytes_arg (P:=P) (w:=w) src e hs he b o (x::l).length c ((x::l).map fun y=>(y.toNat:Int)) (by simp) (fun i hi=>by
   obtain⟨b',o',e1,_,e3⟩:=h4 i (.int .u8 ((x::l)[i]'hi).toNat) (by rw[F7,Am hi];rfl)
   simp only[Option.some.injEq,Addr.mk.injEq,and_true] at e1
   obtain⟨rfl,rfl⟩:=e1
   rw[e3,List.getD_eq_getElem?_getD,List.getElem?_map,Am hi];rfl) dst hd
  rw[this]
  congr 2
  unfold strOfNums
  congr 1
  simp[List.map_map,Function.comp_def]
structure ElemOk (P:Program) (t e:TypeId) (z:Value) (sz bytes:Nat):Prop where
 ht:P.underlying t=some (.slice e)
 info:(P.info? e).map (fun i=>(i.zero,i.size,i.bytes))=some (some z,sz,bytes)
 hz:z.cells.size=sz
 pos:0<sz
theorem Rg {P:Program} {w:World} {ops:Array Oper} {rest:List Oper} {o:Oper} {a:Act} {Q:Exit→Act→World→Prop} (hgd:o.guard=none) (s x:Operand) (t:TypeId)
 (ho:o.op= .call {callee:= .builtin .append,args:=#[s,x],argTypes:=#[t,t]}) {e:TypeId} {z:Value} {sz bytes:Nat} (E:ElemOk P t e z sz bytes)
 {W:World} {base:Nat} (hB:Below base W w) (hbase:base≤w.heap.size) {v:Value} {n:Nat} {xs:List Value} (hown:w.ownsRow base e sz v n xs) (hs:a.eval s=v)
 {S:Nat→Prop} {vx:Value} {m:Nat} {news:List Value} (hrd:G1 S w vx m sz news) (hx:a.eval x=vx) (h1:∀u∈news,u.oneCell'=true)
 (h63:n+m≤maxLen) (hbytes:(n+m)*bytes≤140737488355328)
 (h:∀v' w',w'.ownsRow base e sz v' (n+m) (xs++news)→Below base W w'→(∀b,some b≠v.ownBlock→b<w.heap.size→w'.heap[b]?=w.heap[b]?)→w.heap.size≤w'.heap.size→
   (v'= .slice none 0 0↔v= .slice none 0 0∧m=0)→(∀b,some b=v'.ownBlock→some b=v.ownBlock∨w.heap.size≤b)→wpList P ops Q rest (a.put o.dst v') w'):wpList P ops Q (o::rest) a w:=by
 obtain⟨i,hi,hz0,hz1,hz2⟩:=info_parts E.info
 obtain⟨ad,c,rfl,k1,k2,⟨k3,k4⟩,k5⟩:=hrd
 cases ad with
 |none=>
  have hc:c=0:=k4 rfl
  have hm:m=0:=by omega
  subst hm;subst hc
  have hn:news=[]:=List.eq_nil_of_length_eq_zero (by simpa using k3)
  subst hn
  refine wpList_append_own_none hgd s x t ho base e i sz E.ht hi v n xs hs hown hx (h v w (by simpa using hown) hB (fun _ _ _=>rfl) (Nat.le_refl _) (by simp) (fun b hb=> .inl hb))
 |some ad=>
  have hnews:∀j u,news[j]?=some u→w.cell? (ad.add j)=some u:=by
   intro j u hu
   obtain⟨b,o',e1,_,e3⟩:=k5 j u hu
   simp only[Option.some.injEq] at e1
   subst e1
   have hplain:(⟨b,o',none⟩:Addr).add j=⟨b,o'+j,none⟩:=by unfold Addr.add;split<;>simp_all
   rw[hplain];exact e3
  refine wpList_plain hgd fun K hK=> ?_
  obtain⟨v',w',hr,h2,h3,h4⟩:=run_append_own (P:=P) w base t o.type e i z sz bytes E.ht hi hz0 hz1 hz2 E.hz E.pos v n xs hown ad m c news k3 hnews h1 h63 hbytes hbase
  have own':∀b,some b=v'.ownBlock→some b=v.ownBlock∨w.heap.size≤b:=by
   intro b hb
   subst hz1
   rcases hown.2 with⟨rfl,rfl⟩|⟨g,cap,cur,rfl,hbg,hg,hnc,hcm,hcs,htake⟩
   ·by_cases hm:m=0
    ·rw[h4.2 ⟨rfl,hm⟩] at hb;exact .inl hb
    ·have hr2:=run_append_nil (P:=P) w t o.type e i z E.ht hi hz0 ad m c news k3 hnews (by omega) (by unfold maxLen at h63;omega) (by subst hz2;simp only[Nat.zero_add] at hbytes;omega)
     rw[hr] at hr2
     simp only[Result.ok.injEq] at hr2
     rw[hr2.1] at hb
     simp only[Value.ownBlock,Option.some.injEq] at hb
     right;omega
   ·by_cases hroom:n+m≤cap
    ·have hfit:n*i.size+news.length≤cur.size:=by rw[k3,hcs,←Nat.add_mul];exact Nat.mul_le_mul_right _ hroom
     have hr2:=run_append_room (P:=P) w t o.type e i E.ht hi g n cap cur hg ad m c news k3 hnews h1 hroom hfit
     rw[hr] at hr2
     simp only[Result.ok.injEq] at hr2
     rw[hr2.1] at hb
     exact .inl hb
    ·have holds:∀j u,xs[j]?=some u→w.cell? ((⟨g,0,none⟩:Addr).add j)=some u:=hown.cells (g:=g) rfl
     have hr2:=run_append_grow (P:=P) w t o.type e i z E.ht hi hz0 ⟨g,0,none⟩ n cap xs hown.1 holds ad m c news k3 hnews (by omega) (by unfold maxLen at h63;omega) (growslice_fits (by omega) (by subst hz2;exact hbytes))
     rw[hr] at hr2
     simp only[Result.ok.injEq] at hr2
     rw[hr2.1] at hb
     simp only[Value.ownBlock,Option.some.injEq] at hb
     right;omega
  unfold Oper.wp execOp
  simp only[ho,resolve,invoke,builtin,Sem.run_bind,Sem.run_pure,Result.andThen_ok,List.map_toArray,List.map_cons,List.map_nil,hs,hx,hr]
  exact hK _ _ (h v' w' h2 (hB.grown h3 hbase (fun k e=>(hown.lt k e).1)) (fun b hb hlt=>h3.block b hlt hb) h3.size h4 own')
theorem Jr {P:Program} {w:World} {ops:Array Oper} {rest:List Oper} {o:Oper} {a:Act} {Q:Exit→Act→World→Prop} {e:TypeId} {u:Value} (hgd:o.guard=none) (s x:Operand) (t:TypeId)
 (ho:o.op= .call {callee:= .builtin .append,args:=#[s,x],argTypes:=#[t,t]}) {z:Value} {bytes:Nat} (E:ElemOk P t e z 1 bytes)
 {W:World} {base:Nat} (hB:Below base W w) (hbase:base≤w.heap.size) {v:Value} {n:Nat} {xs:List Value} (hown:w.ownsRow base e 1 v n xs) (hs:a.eval s=v)
 (hx:a.eval x= .slice (some ⟨w.heap.size,0,none⟩) 1 1) (h1:u.oneCell'=true)
 (h63:n+1≤maxLen) (hbytes:(n+1)*bytes≤140737488355328)
 (h:∀v' w',w'.ownsRow base e 1 v' (n+1) (xs++[u])→Below base W w'→(∀b,some b≠v.ownBlock→b<w.heap.size→w'.heap[b]?=w.heap[b]?)→w.heap.size≤w'.heap.size→
   v'≠ .slice none 0 0→(∀b,some b=v'.ownBlock→some b=v.ownBlock∨w.heap.size≤b)→wpList P ops Q rest (a.put o.dst v') w'):wpList P ops Q (o::rest) a (w.alloc (.cells #[u] e)):=
 Rg hgd s x t ho E (hB.alloc hbase _) (by simp;omega) (hown.alloc _) hs (S:=fun _=>True) (m:=1) (news:=[u])
  ⟨_,1,rfl,Nat.le_refl _,by simp[maxLen],⟨rfl,fun h=>by cases h⟩,fun i u' hu=>⟨w.heap.size,0,rfl,trivial,by
    have:=cell_one_new w u e i u' hu
    have hplain:(⟨w.heap.size,0,none⟩:Addr).add i=⟨w.heap.size,0+i,none⟩:=by unfold Addr.add;split<;>simp_all
    rw[hplain] at this;exact this⟩⟩ hx (by simpa using h1) h63 hbytes
  fun v' w' k1 k2 k3 k4 k5 k6=>h v' w' k1 k2 (fun b hb hlt=>by rw[k3 b hb (by simp;omega)];exact heap_alloc_old w _ hlt) (by simp at k4;omega) (fun e=>by have:=k5.1 e;omega)
   (fun b hb=>(k6 b hb).imp id fun h=>by simp at h;omega)
end Go.Proofs.YtokmjjkbginodaaGreatDoor
