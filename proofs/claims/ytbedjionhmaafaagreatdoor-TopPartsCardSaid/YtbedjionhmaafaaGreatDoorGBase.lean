/- GBase: the texts Base, one behind the other. No condition but what each lemma says. -/
import Derived.Test.YtbedjionhmaafaaGreatDoorGUtf
import Derived.WalkKit
import Derived.WalkSpells
import Derived.WalkLawsBesides
import Derived.Laws.EntriesVeiled
import Derived.Laws.BytesArg
import Derived.Laws.AppendOwnNone
import Derived.Lib.ConvBytes
import Derived.Lib.Builder
set_option linter.all false
namespace Go.Proofs.YtbedjionhmaafaaGreatDoor
open Go.RowKit
def Bq:=@Below.refl
def Bl:=@IntWalk.i64_in
def A6:=@Result.andThen_ok
def Au:=@Sem.run_bind
def Bs:=@Sem.run_pure
def Dj:=@World.size_alloc
def Bf:=@run_underlying
variable {w w':World} {v:Value} {n sz base:Nat} {cs xs:List Value} {P:Program}
def Rs (S:Nat→Prop) (w:World) (v:Value) (n sz:Nat) (cs:List Value):Prop:=
 ∃a c,v= .slice a n c∧n≤c∧c≤maxLen∧(cs.length=n*sz∧(a=none→c=0))∧
  ∀i u,cs[i]?=some u→∃b o,a=some ⟨b,o,none⟩∧S b∧w.cell? ⟨b,o+i,none⟩=some u
theorem G4 {a:Addr} {u:Value} (h:w.cell? a=some u):a.block<w.heap.size:=World.block_lt_of_cell? w a h
theorem Rs.keep {S:Nat→Prop} (h:Rs S w v n sz cs)
 (l:∀b,S b→b<w.heap.size→w'.heap[b]?=w.heap[b]?):Rs S w' v n sz cs:=by
 obtain⟨a,c,q,f,p,g,j⟩:=h
 refine⟨a,c,q,f,p,g,fun i u k=> ?_⟩
 obtain⟨b,o,m,e,d⟩:=j i u k
 refine⟨b,o,m,e,?_⟩
 rw[←d]
 exact World.cell?_of_block (l b e (G4 d))
theorem Rs.below {S:Nat→Prop} (h:Rs S w v n sz cs)
 (c:Below w.heap.size w w'):Rs S w' v n sz cs:=h.keep fun b _ a=>c.block b a
theorem Rs.mono {S e:Nat→Prop} (h:Rs S w v n sz cs)
 (q:∀b,b<w.heap.size→S b→e b):Rs e w v n sz cs:=by
 obtain⟨a,c,r,f,p,g,j⟩:=h
 refine⟨a,c,r,f,p,g,fun i u k=> ?_⟩
 obtain⟨b,o,m,l,d⟩:=j i u k
 exact⟨b,o,m,q b (G4 d) l,d⟩
theorem rR {e:TypeId} {a:Nat} (h:w.ownsRow base e a v n xs)
 (b:Below w.heap.size w w'):w'.ownsRow base e a v n xs:=
 h.kept (row:=none) ⟨b.os,b.tape,b.output,b.size,fun k c _=>b.block k c⟩ (by cases v.ownBlock<;>simp)
theorem Ud {e:TypeId} (h:w.ownsRow base e sz v n cs):
 Rs (fun b=>base≤b∧some b=v.ownBlock) w v n sz cs:=by
 rcases h with⟨a,⟨rfl,rfl⟩|⟨g,c,cur,rfl,l,j,f,k,m,o⟩⟩
 ·have:cs=[]:=Bn (by simpa using a)
  subst this
  exact⟨none,0,rfl,At _,Nat.zero_le _,⟨a,fun _=>rfl⟩,fun i u d=>by simp at d⟩
 ·refine⟨_,c,rfl,f,k,⟨a,fun h=>by cases h⟩,fun i u d=>⟨g,0,rfl,⟨l,rfl⟩,?_⟩⟩
  rw[cell_of_row w g (0+i) cur e (0,0) j,A0]
  grind
abbrev Je (S:Nat→Prop) (w:World) (v:Value) (l:List UInt8):Prop:=Rs S w v l.length 1 (Lib.byteCells l)
theorem M7 (l:List UInt8) (i:Nat):(Lib.byteCells l)[i]?=(l[i]?).map fun x=>Value.int .u8 x.toNat:=by
 simp[Lib.byteCells]
theorem Ue (l:List UInt8):(Lib.byteCells l).length=l.length:=by simp[Lib.byteCells]
theorem cf (S:Nat→Prop) (w:World):Je S w (.slice none 0 0) []:=
 ⟨none,0,rfl,At _,Nat.zero_le _,⟨rfl,fun _=>rfl⟩,fun i u a=>by simp[Lib.byteCells] at a⟩
theorem Je.string {S:Nat→Prop} {l:List UInt8} (h:Je S w v l)
 (src dst e:TypeId) (hs:P.underlying src=some (.slice e)) (he:P.underlying e=some (.int .u8)) (hd:P.underlying dst=some .string):
 (convert src dst v).run P w= .ok (.string ⟨l.toArray⟩) w:=by
 obtain⟨a,c,rfl,h1,h2,h3,h4⟩:=h
 cases l with
 |nil=>
  show(convert src dst (.slice a 0 c)).run P w=_
  rw[run_convert_bytes_string w src dst e a 0 c hs he hd]
  cases a with
  |none=>simp[Conv.bytesToString];rfl
  |some ad=>rw[run_bytesToString w ad 0 c [] (by simp[loadCells,go_sem])];rfl
 |cons x l=>
  obtain⟨b,o,rfl,_,_⟩:=h4 0 (.int .u8 x.toNat) (by simp[Lib.byteCells])
  have:=run_convert_bytes_arg (P:=P) (w:=w) src e hs he b o (x::l).length c ((x::l).map fun y=>(y.toNat:Int)) Ab (fun i hi=>by
   obtain⟨b',o',e1,_,e3⟩:=h4 i (.int .u8 ((x::l)[i]'hi).toNat) (by rw[M7,Ev hi];rfl)
   grind) dst hd
  rw[this]
  congr 2
  unfold strOfNums
  congr 1
  simp[Dg,Function.comp_def]
structure ElemOk (P:Program) (t e:TypeId) (z:Value) (sz bytes:Nat):Prop where
 ht:P.underlying t=some (.slice e)
 info:(P.info? e).map (fun i=>(i.zero,i.size,i.bytes))=some (some z,sz,bytes)
 hz:z.cells.size=sz
 pos:0<sz
theorem Xc {ops:Array Oper} {rest:List Oper} {o:Oper} {a:Act} {Q:Exit→Act→World→Prop} (L:o.guard=none) (s x:Operand) (t:TypeId)
 (ho:o.op= .call {callee:= .builtin .append,args:=#[s,x],argTypes:=#[t,t]}) {e:TypeId} {z:Value} {l:Nat} (E:ElemOk P t e z sz l)
 {W:World} (hB:Below base W w) (q:base≤w.heap.size) (d:w.ownsRow base e sz v n xs) (hs:a.eval s=v)
 {S:Nat→Prop} {vx:Value} {m:Nat} {news:List Value} (V:Rs S w vx m sz news) (hx:a.eval x=vx) (h1:∀u∈news,u.oneCell'=true)
 (F:n+m≤maxLen) (p:(n+m)*l≤140737488355328)
 (h:∀v' w',w'.ownsRow base e sz v' (n+m) (xs++news)→Below base W w'→(∀b,some b≠v.ownBlock→b<w.heap.size→w'.heap[b]?=w.heap[b]?)→w.heap.size≤w'.heap.size→
   (v'= .slice none 0 0↔v= .slice none 0 0∧m=0)→(∀b,some b=v'.ownBlock→some b=v.ownBlock∨w.heap.size≤b)→wpList P ops Q rest (a.put o.dst v') w'):wpList P ops Q (o::rest) a w:=by
 obtain⟨i,T,H,M,N⟩:=info_parts E.info
 obtain⟨B,c,rfl,k1,k2,⟨k3,k4⟩,k5⟩:=V
 cases B with
 |none=>
  have hc:c=0:=k4 rfl
  have hm:m=0:=Aa
  subst hm;subst hc
  have hn:news=[]:=Bn (by simpa using k3)
  subst hn
  refine wpList_append_own_none L s x t ho base e i sz E.ht T v n xs hs d hx (h v w (by simpa using d) hB (fun _ _ _=>rfl) (At _) Ab (fun b J=> .inl J))
 |some B=>
  have f:∀j u,news[j]?=some u→w.cell? (B.add j)=some u:=by
   intro j u hu
   obtain⟨b,o',e1,_,e3⟩:=k5 j u hu
   simp only[A7] at e1
   subst e1
   have A:(⟨b,o',none⟩:Addr).add j=⟨b,o'+j,none⟩:=by unfold Addr.add;split<;>simp_all
   rw[A];exact e3
  refine wpList_plain L fun K hK=> ?_
  obtain⟨v',w',hr,h2,X,h4⟩:=run_append_own (P:=P) w base t o.type e i z sz l E.ht T H M N E.hz E.pos v n xs d B m c news k3 f h1 F p q
  have R:∀b,some b=v'.ownBlock→some b=v.ownBlock∨w.heap.size≤b:=by
   intro b J
   subst M
   rcases d.2 with⟨rfl,rfl⟩|⟨g,I,cur,rfl,hbg,hg,hnc,hcm,U,Y⟩
   ·by_cases hm:m=0
    ·grind
    ·have y:=run_append_nil (P:=P) w t o.type e i z E.ht T H B m c news k3 f Aa (by unfold maxLen at F;omega) (by grind)
     grind [Result.ok.injEq,Value.ownBlock,Option.some.injEq]
   ·by_cases r:n+m≤I
    ·have O:n*i.size+news.length≤cur.size:=by rw[k3,U,←C7];exact Ce _ r
     have y:=run_append_room (P:=P) w t o.type e i E.ht T g n I cur hg B m c news k3 f h1 r O
     rw[hr] at y
     simp only[Result.ok.injEq] at y
     rw[y.1] at J
     exact .inl J
    ·have C:∀j u,xs[j]?=some u→w.cell? ((⟨g,0,none⟩:Addr).add j)=some u:=d.cells (g:=g) rfl
     have y:=run_append_grow (P:=P) w t o.type e i z E.ht T H ⟨g,0,none⟩ n I xs d.1 C B m c news k3 f Aa (by unfold maxLen at F;omega) (growslice_fits Aa (by subst N;exact p))
     grind [Result.ok.injEq,Value.ownBlock,Option.some.injEq]
  unfold Oper.wp execOp
  simp only[ho,resolve,invoke,builtin,Au,Bs,A6,List.map_toArray,Bc,List.map_nil,hs,hx,hr]
  exact hK _ _ (h v' w' h2 (hB.grown X q (fun k e=>(d.lt k e).1)) (fun b J Z=>X.block b Z J) X.size h4 R)
theorem Pi {ops:Array Oper} {rest:List Oper} {o:Oper} {a:Act} {Q:Exit→Act→World→Prop} {e:TypeId} {u:Value} (j:o.guard=none) (s x:Operand) (t:TypeId)
 (q:o.op= .call {callee:= .builtin .append,args:=#[s,x],argTypes:=#[t,t]}) {z:Value} {c:Nat} (E:ElemOk P t e z 1 c)
 {W:World} (C:Below base W w) (f:base≤w.heap.size) (g:w.ownsRow base e 1 v n xs) (I:a.eval s=v)
 (y:a.eval x= .slice (some ⟨w.heap.size,0,none⟩) 1 1) (p:u.oneCell'=true)
 (k:n+1≤maxLen) (d:(n+1)*c≤140737488355328)
 (h:∀v' w',w'.ownsRow base e 1 v' (n+1) (xs++[u])→Below base W w'→(∀b,some b≠v.ownBlock→b<w.heap.size→w'.heap[b]?=w.heap[b]?)→w.heap.size≤w'.heap.size→
   v'≠ .slice none 0 0→(∀b,some b=v'.ownBlock→some b=v.ownBlock∨w.heap.size≤b)→wpList P ops Q rest (a.put o.dst v') w'):wpList P ops Q (o::rest) a (w.alloc (.cells #[u] e)):=
 Xc j s x t q E (C.alloc f _) Af (g.alloc _) I (S:=fun _=>True) (m:=1) (news:=[u])
  ⟨_,1,rfl,At _,by simp[maxLen],⟨rfl,fun h=>by cases h⟩,fun i J K=>⟨w.heap.size,0,rfl,trivial,by
    simp_all⟩⟩ y (by simpa using p) k d
  fun v' w' r F k3 A H k6=>h v' w' r F (fun b l B=>by grind [heap_alloc_old]) (by simp at A;omega) (fun e=>by have:=H.1 e;omega)
   (fun b l=>(k6 b l).imp id fun h=>by simp at h;omega)
end Go.Proofs.YtbedjionhmaafaaGreatDoor
