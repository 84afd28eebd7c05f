/- MA: the texts Abs Abs2 Abs3 Abs4 Abs5, one behind the other. No condition but what each lemma says. -/
import Derived.Test.YtbedjionhmaafaaGreatDoorGGd
set_option linter.all false
set_option maxRecDepth 100000
set_option maxHeartbeats 16000000
namespace Go.Proofs.YtbedjionhmaafaaGreatDoor
open Go.RowKit
variable {B j k t n sz bytes i by' off κ m:Nat} {fp:Nat→Nat→Prop} {w w':World} {v z:Value} {gt:Nat→Value} {a:Act} {P:Program} {ops:Array Oper} {oj o:Oper} {b tg ag:Bool} {x y:Operand} {r:List Oper} {cur:Array Value}
inductive D where
 |v (x:Value)
 |sl (t:Bool) (n sz:Nat) (cs:List D)
 |cp (t:Bool) (ds:List D)
 |fn (f:Nat) (caps:List D)
variable {ds:List D}
inductive Rd (B:Nat) (fp:Nat→Nat→Prop) (w:World):D→Value→Prop
 |v (x:Value):Rd B fp w (.v x) x
 |sl {t:Bool} {n sz:Nat} {cs:List D} {a:Option Addr} {c:Nat} (us:List Value) (h1:n≤c) (h2:c≤maxLen) (h3:cs.length=n*sz) (h4:us.length=cs.length) (h5:a=none→c=0)
   (h6:∀u∈us,u.oneCell'=true) (h7:∀(i:Nat) d u,cs[i]?=some d→us[i]?=some u→Rd B fp w d u)
   (h8:∀(i:Nat) u,us[i]?=some u→∃b o,a=some ⟨b,o,none⟩∧fp b (o+i)∧(t=true→B≤b)∧w.cell? ⟨b,o+i,none⟩=some u):Rd B fp w (.sl t n sz cs) (.slice a n c)
 |cp {t:Bool} {ds:List D} {b o:Nat} (us:List Value) (h4:us.length=ds.length) (h7:∀(i:Nat) d u,ds[i]?=some d→us[i]?=some u→Rd B fp w d u)
   (h8:∀(i:Nat) u,us[i]?=some u→fp b (o+i)∧(t=true→B≤b)∧w.cell? ⟨b,o+i,none⟩=some u):Rd B fp w (.cp t ds) (.pointer (some ⟨b,o,none⟩))
 |fn {f:Nat} {caps:List D} (us:List Value) (h4:us.length=caps.length) (h7:∀(i:Nat) d u,caps[i]?=some d→us[i]?=some u→Rd B fp w d u):Rd B fp w (.fn f caps) (.func (.func f) #[] us.toArray)
theorem Rd.keep {g:Nat} {c:Nat→Nat→Prop} (L:g≤B) (J:∀b o,fp b o→c b o) (K:∀b o,fp b o→w'.cell? ⟨b,o,none⟩=w.cell? ⟨b,o,none⟩) {d:D} (h:Rd B fp w d v):Rd g c w' d v:=by
 induction h with
 |v x=>exact .v x
 |sl us q H s e I F p E f=>
  refine .sl us q H s e I F f fun i u A=> ?_
  grind
 |cp us e p E f=>
  refine .cp us e f fun i u A=> ?_
  grind
 |fn us e p f=>exact .fn us e f
mutual
def D.un:D→D
 | .v x=> .v x
 | .sl _ n sz cs=> .sl false n sz (Ef cs)
 | .cp _ ds=> .cp false (Ef ds)
 | .fn f caps=> .fn f (Ef caps)
def Ef:List D→List D
 |[]=>[]
 |d::r=>d.un::Ef r
end
theorem I1 (l:List D):Ef l=l.map D.un:=by
 induction l with
 |nil=>rfl
 |cons d r c=>rw[Ef,c];rfl
theorem Rd.un {F:Nat} {d:D} (h:Rd B fp w d v):Rd F fp w d.un v:=by
 induction h with
 |v x=>exact .v x
 |sl us q H s c I E p A g=>
  refine .sl us q H (by rw[I1,Ba];exact s) (by rw[I1,Ba];exact c) I E (fun i d u e f=> ?_) fun i u f=> ?_
  ·rw[I1,Bk,A8] at e
   grind
  grind
 |cp us c p A g=>
  refine .cp us (by rw[I1,Ba];exact c) (fun i d u e f=> ?_) fun i u f=> ?_
  ·rw[I1,Bk,A8] at e
   grind
  grind
 |fn us c p g=>
  refine .fn us (by rw[I1,Ba];exact c) (fun i d u e f=> ?_)
  rw[I1,Bk,A8] at e
  grind
structure BM where
 m:Nat→Nat
 z:Nat→Nat→Prop
variable {bm:BM}
instance:CoeFun BM (fun _=>Nat→Nat):=⟨BM.m⟩
def NC (w w':World):Prop:=∀(b:Nat) (ob:Obj),w.heap[b]?=some ob→(∀cs e f,ob≠Obj.cells cs e f)→w'.heap[b]?=some ob
theorem NC.refl (w:World):NC w w:=fun _ _ h _=>h
theorem NC.trans {c e f:World} (h:NC c e) (q:NC e f):NC c f:=fun b d p g=>q b d (h b d p g) g
theorem NC.below (h:Below w.heap.size w w'):NC w w':=fun b _ c _=>(h.block b (Br.1 c).1).trans c
theorem NC.one {g:Nat} {cs:Array Value} {e:TypeId} {f:Nat×Nat} (p:w.heap[g]?=some (.cells cs e f)) (h:∀j,j<w.heap.size→j≠g→w'.heap[j]?=w.heap[j]?):NC w w':=fun b d c q=>by
 grind
inductive AV where
 |d (x:D)
 |ptr (k off:Nat)
 |own (k n sz:Nat) (e:TypeId) (cs:List D)
 |agg (cs:List AV)
 |tup (xs:List AV)
 |sem (φ:(Nat→Nat→Prop)→World→Value→Prop)
 |cl (f:Nat) (fs cs:List AV)
 |pk (k off n sz:Nat)
variable {u:AV} {cs us:List AV}
inductive RA (B:Nat) (fp:Nat→Nat→Prop) (w:World) (bm:BM) (gt:Nat→Value):AV→Value→Prop
 |d {x:D} {v:Value} (h:Rd B fp w x v):RA B fp w bm gt (.d x) v
 |ptr {k off:Nat}:RA B fp w bm gt (.ptr k off) (.pointer (some ⟨bm k,off,none⟩))
 |own {k n sz:Nat} {e:TypeId} {cs:List D} (h:Rd B fp w (.sl true n sz cs) (gt k)):RA B fp w bm gt (.own k n sz e cs) (gt k)
 |agg {cs:List AV} (vs:List Value) (h4:vs.length=cs.length) (h7:∀(i:Nat) u v,cs[i]?=some u→vs[i]?=some v→RA B fp w bm gt u v):RA B fp w bm gt (.agg cs) (.agg vs.toArray)
 |tup {cs:List AV} (vs:List Value) (h4:vs.length=cs.length) (h7:∀(i:Nat) u v,cs[i]?=some u→vs[i]?=some v→RA B fp w bm gt u v):RA B fp w bm gt (.tup cs) (.tuple vs.toArray)
 |sem {φ:(Nat→Nat→Prop)→World→Value→Prop} {v:Value} (h1:v.oneCell'=true) (h:∀z' w',(∀b o,bm.z b o→z' b o)→(∀b o,bm.z b o→w'.cell? ⟨b,o,none⟩=w.cell? ⟨b,o,none⟩)→NC w w'→φ z' w' v):RA B fp w bm gt (.sem φ) v
 |cl {f:Nat} {fs cs:List AV} (us vs:List Value) (h3:us.length=fs.length) (h4:vs.length=cs.length) (h6:∀(i:Nat) u v,fs[i]?=some u→us[i]?=some v→RA B fp w bm gt u v) (h7:∀(i:Nat) u v,cs[i]?=some u→vs[i]?=some v→RA B fp w bm gt u v):RA B fp w bm gt (.cl f fs cs) (.func (.func f) us.toArray vs.toArray)
 |pk {k off n sz c:Nat} (h1:n≤c) (h2:c≤maxLen):RA B fp w bm gt (.pk k off n sz) (.slice (some ⟨bm k,off,none⟩) n c)
theorem RA.keep {B F:Nat} {fp c:Nat→Nat→Prop} {w w':World} {bm:BM} {gt:Nat→Value} (R:∀b o,bm.z b o→fp b o) (M:NC w w') (H:F≤B) (E:∀b o,fp b o→c b o) (s:∀b o,fp b o→w'.cell? ⟨b,o,none⟩=w.cell? ⟨b,o,none⟩) {u:AV} {v:Value} (h:RA B fp w bm gt u v):RA F c w' bm gt u v:=by
 induction h with
 |d h=>exact .d (h.keep H E s)
 |ptr=>exact .ptr
 |own h=>exact .own (h.keep H E s)
 |agg vs e I g=>exact .agg vs e g
 |tup vs e I g=>exact .tup vs e g
 |cl us vs N e T I A q=>exact .cl us vs N e A q
 |pk f Q=>exact .pk f Q
 |sem f h=>exact .sem f fun K p L O k3=>h K p L (fun b o J=>(O b o J).trans (s b o (R b o J))) (M.trans k3)
mutual
def AV.clean (k:Nat):AV→Bool
 | .d _=>true
 | .ptr j _=> !(Nat.beq j k)
 | .own j _ _ _ _=> !(Nat.beq j k)
 | .agg cs=>Fu k cs
 | .tup cs=>Fu k cs
 | .sem _=>true
 | .cl _ fs cs=>Fu k fs&&Fu k cs
 | .pk j _ _ _=> !(Nat.beq j k)
def Fu (k:Nat):List AV→Bool
 |[]=>true
 |c::r=>c.clean k&&Fu k r
end
theorem Ih {k:Nat}:∀{l:List AV} {i:Nat} {u:AV},Fu k l=true→l[i]?=some u→u.clean k=true
 |[],_,_,_,h=>by simp at h
 |c::r,0,u,hc,h=>by grind [Fu]
 |c::r,i+1,u,hc,h=>by
  simp only[Fu,Et] at hc
  exact Ih hc.2 (by simpa using h)
theorem sG (h:(!(Nat.beq j k))=true):j≠k:=by
 grind [Nat.beq_refl]
theorem RA.turn {bm':BM} {A:Nat→Value} (q:∀j,j≠k→bm' j=bm j) (L:∀b o,bm.z b o→bm'.z b o) (Q:∀j,j≠k→A j=gt j) (h:RA B fp w bm gt u v) (g:u.clean k=true):RA B fp w bm' A u v:=by
 induction h with
 |d h=>exact .d h
 |@ptr j off=>
  have:=q j (sG (by simpa only[AV.clean] using g))
  rw[←this];exact .ptr
 |@own j n sz e cs h=>
  have:=Q j (sG (by simpa only[AV.clean] using g))
  rw[←this] at h⊢;exact .own h
 |agg vs s K F=>exact .agg vs s fun i u v f p=>F i u v f p (Ih (by simpa only[AV.clean] using g) f)
 |tup vs s K F=>exact .tup vs s fun i u v f p=>F i u v f p (Ih (by simpa only[AV.clean] using g) f)
 |sem E h=>exact .sem E fun M H N R k3=>h M H (fun b o q=>N b o (L b o q)) (fun b o q=>R b o (L b o q)) k3
 |cl us vs O s U K J I=>
  simp only[AV.clean,Et] at g
  exact .cl us vs O s (fun i u v f p=>J i u v f p (Ih g.1 f)) (fun i u v f p=>I i u v f p (Ih g.2 f))
 |@pk j off n sz c E T=>
  have:=q j (sG (by simpa only[AV.clean] using g))
  rw[←this];exact .pk E T
mutual
def AV.share (k:Nat):AV→AV
 | .d x=> .d x
 | .ptr j o=> .ptr j o
 | .own j n sz e cs=>match Nat.beq j k with
   |true=> .d (.sl true n sz cs)
   |false=> .own j n sz e cs
 | .agg cs=> .agg (Hq k cs)
 | .tup cs=> .tup (Hq k cs)
 | .sem φ=> .sem φ
 | .cl f fs cs=> .cl f (Hq k fs) (Hq k cs)
 | .pk j o n sz=> .pk j o n sz
def Hq (k:Nat):List AV→List AV
 |[]=>[]
 |c::r=>c.share k::Hq k r
end
theorem Hu (k:Nat) (l:List AV):Hq k l=l.map (AV.share k):=by
 induction l with
 |nil=>rfl
 |cons d r c=>rw[Hq,c];rfl
theorem RA.share {B:Nat} {fp:Nat→Nat→Prop} {w:World} {bm:BM} {gt f:Nat→Value} {k:Nat} (H:∀j,j≠k→f j=gt j) {u:AV} {v:Value} (h:RA B fp w bm gt u v):RA B fp w bm f (u.share k) v:=by
 induction h with
 |d h=>exact .d h
 |ptr=>exact .ptr
 |sem p h=>exact .sem p h
 |pk p I=>exact .pk p I
 |cl us vs E g K s J F=>
  unfold AV.share
  refine .cl us vs (by rw[Hu,Ba];exact E) (by rw[Hu,Ba];exact g) (fun i u v c q=> ?_) (fun i u v c q=> ?_)
  ·rw[Hu,Bk,A8] at c
   grind
  ·rw[Hu,Bk,A8] at c
   grind
 |@own j n sz e cs h=>
  unfold AV.share
  cases L:Nat.beq j k with
  |true=>exact .d h
  |false=>
   have:=H j (fun e=>by simp_all)
   simp only[]
   rw[←this] at h⊢
   exact .own h
 |agg vs g s A=>
  unfold AV.share
  refine .agg vs (by rw[Hu,Ba];exact g) fun i u v c q=> ?_
  rw[Hu,Bk,A8] at c
  grind
 |tup vs g s A=>
  unfold AV.share
  refine .tup vs (by rw[Hu,Ba];exact g) fun i u v c q=> ?_
  rw[Hu,Bk,A8] at c
  grind
def lk {β:Type} (t:Nat):List (Nat×β)→Option β
 |[]=>none
 |(k,b)::r=>match Nat.beq k t with
  |true=>some b
  |false=>lk t r
theorem F1 {c:Type} (t:Nat) (b:c) (r:List (Nat×c)):lk t ((t,b)::r)=some b:=by
 simp only[lk,Nat.beq_refl]
theorem Gm {c:Type} (b:c) (r:List (Nat×c)) (h:k≠t):lk t ((k,b)::r)=lk t r:=by
 grind [Nat.beq,absurd,Nat.eq_of_beq_eq_true,lk]
structure AS where
 tm:List (Nat×AV)
 bx:List (Nat×List AV)
 tk:List (Nat×Nat×Nat×TypeId)
variable {σ:AS} {Φ:Exit→AS→Prop}
theorem Xi (h:Nat.blt t n=true):t<n:=Ay h
structure Cx where
 W:World
 fp0:Nat→Nat→Prop
 N:Nat
 gh:Nat→Option Value
 z0:Nat→Nat→Prop
variable {C:Cx}
def Cx.val (C:Cx) (a:Act) (t:Nat):Option Value:=bif Nat.blt t 1000000 then a.tmps[t]? else C.gh t
theorem Im (h:t<1000000):C.val a t=a.tmps[t]?:=by
 have:Nat.blt t 1000000=true:=Nat.ble_eq_true_of_le h
 simp only[Cx.val,this,cond_true]
structure BoxOk (B:Nat) (fp:Nat→Nat→Prop) (w:World) (bm:BM) (gt:Nat→Value) (b:Nat) (cs:List AV):Prop where
 own:B≤b
 un:∀o,¬fp b o
 obj:∃cur e,w.heap[b]?=some (.cells cur e (0,0))∧cs.length≤cur.size∧∀(i:Nat) u v,cs[i]?=some u→cur[i]?=some v→RA B fp w bm gt u v
theorem BoxOk.lt {b:Nat} (h:BoxOk B fp w bm gt b cs):b<w.heap.size:=by
 obtain⟨cur,e,c,_⟩:=h.obj
 grind
structure TokOk (B:Nat) (fp:Nat→Nat→Prop) (w:World) (v:Value) (n sz:Nat) (e:TypeId):Prop where
 own:∃xs,w.ownsRow B e sz v n xs
 tail:∀g,v.ownBlock=some g→∀o,n*sz≤o→¬fp g o
structure GG (C:Cx) (bm:BM) (gt:Nat→Value) (fp:Nat→Nat→Prop) (σ:AS) (a:Act) (w:World):Prop where
 sz:a.tmps.size=C.N
 nN:C.N≤1000000
 gd:Gd C.W
 zf:∀b o,bm.z b o→fp b o
 za:∀b o,C.z0 b o→bm.z b o
 zb:∀b o,bm.z b o→C.z0 b o∨C.W.heap.size≤b
 ztk:∀k x,lk k σ.tk=some x→∀g,(gt k).ownBlock=some g→∀o,¬bm.z g o
 df:a.defers=[]
 tm:∀t u,lk t σ.tm=some u→∃v,C.val a t=some v∧RA C.W.heap.size fp w bm gt u v
 bx:∀k cs,lk k σ.bx=some cs→BoxOk C.W.heap.size fp w bm gt (bm k) cs
 bxi:∀k k' cs cs',lk k σ.bx=some cs→lk k' σ.bx=some cs'→bm k=bm k'→k=k'
 tk:∀k n sz e,lk k σ.tk=some (n,sz,e)→TokOk C.W.heap.size fp w (gt k) n sz e
 tki:∀k k' x x',lk k σ.tk=some x→lk k' σ.tk=some x'→(gt k).ownBlock≠none→(gt k).ownBlock=(gt k').ownBlock→k=k'
 tkb:∀k k' x cs,lk k σ.tk=some x→lk k' σ.bx=some cs→(gt k).ownBlock≠some (bm k')
 fpb:∀b o,fp b o→(C.fp0 b o∨C.W.heap.size≤b)∧b<w.heap.size
 fp0:∀b o,C.fp0 b o→fp b o
 fpB:∀b o,C.fp0 b o→b<C.W.heap.size
 bel:Below C.W.heap.size C.W w
theorem GG.gdw (h:GG C bm gt fp σ a w):Gd w:=Gd.below h.bel h.gd
theorem RA.zmono {z:Nat→Nat→Prop} (E:∀b o,bm.z b o→z b o) (h:RA B fp w bm gt u v):RA B fp w ⟨bm.m,z⟩ gt u v:=by
 induction h with
 |d h=>exact .d h
 |@ptr k off=>exact .ptr (bm:=⟨bm.m,z⟩) (k:=k)
 |own h=>exact .own h
 |agg vs e A g=>exact .agg vs e g
 |tup vs e A g=>exact .tup vs e g
 |sem f h=>exact .sem f fun H w' I J k3=>h H w' (fun b o s=>I b o (E b o s)) (fun b o s=>J b o (E b o s)) k3
 |cl us vs F e L A q p=>exact .cl us vs F e q p
 |@pk k off n sz c f K=>exact .pk (bm:=⟨bm.m,z⟩) (k:=k) f K
def G (C:Cx) (σ:AS) (a:Act) (w:World):Prop:=∃bm gt fp,GG C bm gt fp σ a w
theorem GG.grow (h:GG C bm gt fp σ a w) (f:Below w.heap.size w w'):GG C bm gt fp σ a w':=by
 have I:∀b o,fp b o→w'.cell? ⟨b,o,none⟩=w.cell? ⟨b,o,none⟩:=fun b o g=>f.cell (p:=⟨b,o,none⟩) (h.fpb b o g).2
 have c:∀{u v},RA C.W.heap.size fp w bm gt u v→RA C.W.heap.size fp w' bm gt u v:=fun J=>J.keep h.zf (NC.below f) (At _) (fun _ _ x=>x) I
 refine{sz:=h.sz,nN:=h.nN,gd:=h.gd,za:=h.za,zb:=h.zb,zf:=h.zf,ztk:=h.ztk,df:=h.df,tm:=fun t u s=> ?_,bx:=fun k cs A=> ?_,bxi:=h.bxi,tk:=fun k n sz e A=> ?_,tki:=h.tki,tkb:=h.tkb,fpb:=fun b o g=>⟨(h.fpb b o g).1,Ci (h.fpb b o g).2 f.size⟩,fp0:=h.fp0,fpB:=h.fpB,bel:=h.bel.trans (f.mono h.bel.size)}
 ·obtain⟨v,q,E⟩:=h.tm t u s
  exact⟨v,q,c E⟩
 ·have d:=h.bx k cs A
  obtain⟨cur,e,q,E,H⟩:=d.obj
  exact⟨d.own,d.un,cur,e,(f.block _ d.lt).trans q,E,fun i u v s K=>c (H i u v s K)⟩
 ·have d:=h.tk k n sz e A
  obtain⟨xs,F⟩:=d.own
  exact⟨⟨xs,rR F f⟩,d.tail⟩
def AS.put (σ:AS) (t:Nat) (u:AV):AS:={σ with tm:=(t,u)::σ.tm}
@[simp] theorem AS.put_tm (σ:AS) (t:Nat) (u:AV):(σ.put t u).tm=(t,u)::σ.tm:=rfl
@[simp] theorem AS.put_bx (σ:AS) (t:Nat) (u:AV):(σ.put t u).bx=σ.bx:=rfl
@[simp] theorem AS.put_tk (σ:AS) (t:Nat) (u:AV):(σ.put t u).tk=σ.tk:=rfl
def shB (k:Nat):List (Nat×List AV)→List (Nat×List AV)
 |[]=>[]
 |(j,c)::r=>(j,Hq k c)::shB k r
def shT (k:Nat):List (Nat×AV)→List (Nat×AV)
 |[]=>[]
 |(j,c)::r=>(j,c.share k)::shT k r
theorem sH (k t:Nat):∀l:List (Nat×AV),lk t (shT k l)=(lk t l).map (AV.share k)
 |[]=>rfl
 |(j,c)::r=>by
  simp only[shT,lk]
  cases Nat.beq j t with
  |true=>rfl
  |false=>exact sH k t r
theorem aB (k t:Nat):∀l:List (Nat×List AV),lk t (shB k l)=(lk t l).map (Hq k)
 |[]=>rfl
 |(j,c)::r=>by
  simp only[shB,lk]
  cases Nat.beq j t with
  |true=>rfl
  |false=>exact aB k t r
def clB (k:Nat):List (Nat×List AV)→Bool
 |[]=>true
 |(_,c)::r=>Fu k c&&clB k r
def clT (k:Nat):List (Nat×AV)→Bool
 |[]=>true
 |(_,c)::r=>c.clean k&&clT k r
def AS.clean (k:Nat) (σ:AS):Bool:=clT k σ.tm&&clB k σ.bx
theorem sI {k t:Nat} {u:AV}:∀{l:List (Nat×AV)},clT k l=true→lk t l=some u→u.clean k=true
 |[],_,h=>by cases h
 |(j,c)::r,hc,h=>by
  simp only[clT,Et] at hc
  simp only[lk] at h
  cases d:Nat.beq j t with
  |true=>rw[d] at h;cases h;exact hc.1
  |false=>rw[d] at h;exact sI hc.2 h
theorem sJ {k t:Nat} {u:List AV}:∀{l:List (Nat×List AV)},clB k l=true→lk t l=some u→Fu k u=true
 |[],_,h=>by cases h
 |(j,c)::r,hc,h=>by
  simp only[clB,Et] at hc
  simp only[lk] at h
  cases d:Nat.beq j t with
  |true=>rw[d] at h;cases h;exact hc.1
  |false=>rw[d] at h;exact sJ hc.2 h
theorem GG.put {C:Cx} {bm:BM} {gt:Nat→Value} {fp:Nat→Nat→Prop} {σ:AS} {a:Act} {w:World} (h:GG C bm gt fp σ a w) {t:Nat} {u:AV} {v:Value} (d:t<C.N) (f:RA C.W.heap.size fp w bm gt u v):GG C bm gt fp (σ.put t u) (a.put (some t) v) w:=by
 refine{sz:=by simp[Act.put,h.sz],nN:=h.nN,gd:=h.gd,za:=h.za,zb:=h.zb,zf:=h.zf,ztk:=h.ztk,df:=h.df,tm:=fun s x c=> ?_,bx:=h.bx,bxi:=h.bxi,tk:=h.tk,tki:=h.tki,tkb:=h.tkb,fpb:=h.fpb,fp0:=h.fp0,fpB:=h.fpB,bel:=h.bel}
 by_cases e:t=s
 ·subst e
  rw[AS.put_tm,F1] at c
  cases c
  exact⟨v,by rw[Im (Ci d h.nN)];simp[Act.put,h.sz,d],f⟩
 ·rw[AS.put_tm,Gm _ _ e] at c
  obtain⟨v',g,p⟩:=h.tm s x c
  grind [Act.put,Cx.val,Array.getElem?_setIfInBounds_ne]
def AS.eval (σ:AS):Operand→Option AV
 | .tmp t=>bif Nat.blt t 1000000 then lk t σ.tm else none
 | .const v=>some (.d (.v v))
 | .func f=>some (.d (.fn f []))
 | .global _=>none
theorem GG.eval {C:Cx} {bm:BM} {gt:Nat→Value} {fp:Nat→Nat→Prop} {σ:AS} {a:Act} {w:World} (h:GG C bm gt fp σ a w) {x:Operand} {u:AV} (c:σ.eval x=some u):RA C.W.heap.size fp w bm gt u (a.eval x):=by
 cases x with
 |tmp t=>
  simp only[AS.eval] at c
  cases e:Nat.blt t 1000000 with
  |false=>rw[e] at c;cases c
  |true=>
  rw[e] at c
  obtain⟨v,p,q⟩:=h.tm t u c
  rw[Im (Xi e)] at p
  simp only[Act.eval,Array.getD_eq_getD_getElem?,p,Cu]
  exact q
 |const v=>simp only[AS.eval,A7] at c;subst c;exact .d (.v _)
 |func f=>simp only[AS.eval,A7] at c;subst c;exact .d (.fn [] rfl (fun i d u h=>by simp at h))
 |global g=>cases c
theorem RA.val {x:Value} (h:RA B fp w bm gt (.d (.v x)) v):v=x:=by
 cases h with|d h=>cases h;rfl
structure TyOk (P:Program) (t:TypeId) (d:TypeDesc) (z:Value) (sz bytes:Nat):Prop where
 u:P.underlying t=some d
 i:(P.info? t).map (fun i=>(i.zero,i.size,i.bytes))=some (some z,sz,bytes)
def Om:TypeDesc→Bool
 | .struct _| .array _ _=>true
 |_=>false
theorem TyOk.inf {t:TypeId} {d:TypeDesc} (h:TyOk P t d z sz bytes):∃i,P.info? t=some i∧i.zero=some z∧i.size=sz∧i.bytes=bytes:=by
 have:=h.i
 simp_all
theorem TyOk.size {t:TypeId} {d:TypeDesc} (h:TyOk P t d z sz bytes) (w:World):(sizeOf t).run P w= .ok sz w:=by
 obtain⟨i,h1,-,h3,-⟩:=h.inf
 simp[sizeOf,typeInfo,go_sem,h1,h3]
theorem TyOk.zero {t:TypeId} {d:TypeDesc} (h:TyOk P t d z sz bytes) (w:World):(zeroValue t).run P w= .ok z w:=by
 obtain⟨i,h1,h2,-,-⟩:=h.inf
 simp[zeroValue,typeInfo,go_sem,h1,h2]
theorem TyOk.agg {t:TypeId} {d:TypeDesc} (h:TyOk P t d z sz bytes) (w:World):(isAgg t).run P w= .ok (Om d) w:=by
 unfold isAgg
 rw[Au,Bf h.u]
 cases d<;>rfl
theorem TyOk.und {t:TypeId} {d:TypeDesc} (h:TyOk P t d z sz bytes) (w:World):(underlying t).run P w= .ok d w:=Bf h.u w
def Fp (P:Program) (C:Cx) (o:Oper) (σ σ':AS):Prop:=∀a w,G C σ a w→∀K Q,(∀a' w',G C σ' a' w'→K a' w')→o.wp P a w K Q
def T5 (C:Cx) (Φ:Exit→AS→Prop):Exit→Act→World→Prop:=fun e a w=>∃σ,Φ e σ∧G C σ a w
def P1 (P:Program) (C:Cx) (ops:Array Oper) (Φ:Exit→AS→Prop) (l:List Oper) (σ:AS):Prop:=∀a w,G C σ a w→wpList P ops (T5 C Φ) l a w
theorem JI (h:Φ .normal σ):P1 P C ops Φ [] σ:=fun _ _ c=>⟨σ,h,c⟩
theorem Mm (g:G C σ a w) (d:ops[j]?=some oj) (q:oj.dst=some t) (p:lk t σ.tm=some (.d (.v (.bool b)))) (e:t<1000000):yielded ops a.tmps j=some b:=by
 obtain⟨bm,gt,fp,f⟩:=g
 obtain⟨v,c,h⟩:=f.tm t _ p
 rw[Im e] at c
 obtain rfl:=h.val
 simp[yielded,d,q,c]
theorem Pl (g:G C σ a w) {x:Array Value} (d:ops[j]?=some oj) (q:oj.dst=some t) (p:lk t σ.tm=some (.d (.v (.tuple x)))) (e:t<1000000):yielded ops a.tmps j=none:=by
 obtain⟨bm,gt,fp,f⟩:=g
 obtain⟨v,c,h⟩:=f.tm t _ p
 rw[Im e] at c
 obtain rfl:=h.val
 simp[yielded,d,q,c]
theorem G.put {C:Cx} {σ:AS} {a:Act} {w:World} (h:G C σ a w) {t:Nat} (c:t<C.N) (v:Value):G C (σ.put t (.d (.v v))) (a.put (some t) v) w:=by
 obtain⟨bm,gt,fp,d⟩:=h
 exact⟨bm,gt,fp,d.put c (.d (.v v))⟩
theorem DH {c:Bool} {s:Nat} (A:o.guard=some (j,b)) (f:ops[j]?=some oj) (F:oj.dst=some t) (E:lk t σ.tm=some (.d (.v (.bool c)))) (d:t<1000000) (q:c= !b)
 (H:o.dst=some s) (p:s<C.N) (k:P1 P C ops Φ r (σ.put s (.d (.v undef)))):P1 P C ops Φ (o::r) σ:=by
 intro a w e
 have h:=Mm e f F E d
 refine wpList_step fun K g=> ?_
 rw[Ai (by subst q;simp[Region.wanted,A,h])]
 rw[H]
 exact g _ _ (k _ _ (e.put p undef))
theorem sK {c:Bool} (q:o.guard=some (j,b)) (f:ops[j]?=some oj) (A:oj.dst=some t) (s:lk t σ.tm=some (.d (.v (.bool c)))) (d:t<1000000) (p:c= !b)
 (E:o.dst=none) (k:P1 P C ops Φ r σ):P1 P C ops Φ (o::r) σ:=by
 intro a w e
 have h:=Mm e f A s d
 refine wpList_step fun K g=> ?_
 rw[Ai (by subst p;simp[Region.wanted,q,h])]
 rw[E]
 exact g _ _ (k _ _ e)
theorem sL {x:Array Value} {s:Nat} (p:o.guard=some (j,b)) (e:ops[j]?=some oj) (A:oj.dst=some t) (q:lk t σ.tm=some (.d (.v (.tuple x)))) (c:t<1000000)
 (E:o.dst=some s) (h:s<C.N) (k:P1 P C ops Φ r (σ.put s (.d (.v undef)))):P1 P C ops Φ (o::r) σ:=by
 intro a w d
 have g:=Pl d e A q c
 refine wpList_step fun K f=> ?_
 rw[Ai (by simp[Region.wanted,p,g])]
 rw[E]
 exact f _ _ (k _ _ (d.put h undef))
theorem mE {x:Array Value} (h:o.guard=some (j,b)) (e:ops[j]?=some oj) (q:oj.dst=some t) (p:lk t σ.tm=some (.d (.v (.tuple x)))) (c:t<1000000)
 (s:o.dst=none) (k:P1 P C ops Φ r σ):P1 P C ops Φ (o::r) σ:=by
 intro a w d
 have g:=Pl d e q p c
 refine wpList_step fun K f=> ?_
 rw[Ai (by simp[Region.wanted,h,g])]
 rw[s]
 exact f _ _ (k _ _ d)
section
variable {P:Program} {C:Cx} {o:Oper} {σ:AS} {t:Nat}
theorem E1 (p:o.dst=some t) (f:t<C.N) (h:∀a w bm gt fp,GG C bm gt fp σ a w→∃v,(execOp a.eval o).run P w= .ok (.value v) w∧RA C.W.heap.size fp w bm gt u v):Fp P C o σ (σ.put t u):=by
 rintro a w ⟨bm,gt,fp,c⟩ K Q e
 obtain⟨v,d,g⟩:=h a w bm gt fp c
 unfold Oper.wp
 rw[d,Oper.upon_value,p]
 exact e _ _ ⟨bm,gt,fp,c.put f g⟩
theorem DI (c:o.op= .move x) (g:o.dst=some t) (d:t<C.N) (f:σ.eval x=some u):Fp P C o σ (σ.put t u):=
 E1 g d fun a w bm gt fp e=>⟨a.eval x,by simp only[execOp,c];rfl,e.eval f⟩
theorem mF (c:o.op= .assign x) (g:o.dst=some t) (d:t<C.N) (f:σ.eval x=some u):Fp P C o σ (σ.put t u):=
 E1 g d fun a w bm gt fp e=>⟨a.eval x,by simp only[execOp,c];rfl,e.eval f⟩
theorem DJ {c:Operand} (f:o.op= .pick c x y) (p:o.dst=some t) (g:t<C.N) (e:σ.eval c=some (.d (.v (.bool b)))) (h:σ.eval (bif b then x else y)=some u):Fp P C o σ (σ.put t u):=
 E1 p g fun a w bm gt fp d=>⟨a.eval (bif b then x else y),by
  have:=(d.eval e).val
  simp only[execOp,f,this]
  cases b<;>rfl,d.eval h⟩
theorem JJ {op:BinOp} {c f:TypeId} {p q:Value} (h:o.op= .binOp op c x y f) (H:o.dst=some t) (s:t<C.N) (E:σ.eval x=some (.d (.v p))) (g:σ.eval y=some (.d (.v q)))
 (F:∀w,(do eqGuard op c x y p q;binOp op c p q:Sem Value).run P w= .ok z w):Fp P C o σ (σ.put t (.d (.v z))):=
 E1 H s fun a w bm gt fp d=>⟨z,by
  have e:=(d.eval E).val
  have A:=(d.eval g).val
  simp only[execOp,h,e,A]
  rw[Au,F w]
  rfl,.d (.v z)⟩
def jj (op:BinOp) (k:IntKind) (m n:Int):Option Value:=
 match op with
 | .add=>some (.int k (k.wrap (m+n)))
 | .sub=>some (.int k (k.wrap (m-n)))
 | .mul=>some (.int k (k.wrap (m*n)))
 | .and=>some (.int k (k.wrap (BitVec.ofInt k.bits m&&&BitVec.ofInt k.bits n).toNat))
 | .or=>some (.int k (k.wrap (BitVec.ofInt k.bits m|||BitVec.ofInt k.bits n).toNat))
 | .xor=>some (.int k (k.wrap (BitVec.ofInt k.bits m^^^BitVec.ofInt k.bits n).toNat))
 | .eql=>some (.bool (m==n))
 | .neq=>some (.bool (m !=n))
 | .lss=>some (.bool (m<n))
 | .leq=>some (.bool (m≤n))
 | .gtr=>some (.bool (m>n))
 | .geq=>some (.bool (m≥n))
 |_=>none
theorem JK {h:TypeId} (d:o.op= .unOp .not h x) (p:o.dst=some t) (e:t<C.N) (g:σ.eval x=some (.d (.v (.bool b)))):Fp P C o σ (σ.put t (.d (.v (.bool !b)))):=
 E1 p e fun a w bm gt fp f=>⟨.bool !b,by
  have c:=(f.eval g).val
  simp only[execOp,d,c]
  rfl,.d (.v _)⟩
theorem DK {src dst:TypeId} {k k0:IntKind} {d:TypeDesc} {m z:Int} (ho:o.op= .convert src dst x) (hd:o.dst=some t) (ht:t<C.N) (hs:P.underlying src=some d) (hu:P.underlying dst=some (.int k)) (hx:σ.eval x=some (.d (.v (.int k0 m)))) (hz:k.wrap m=z):
 Fp P C o σ (σ.put t (.d (.v (.int k z)))):=
 E1 hd ht fun a w bm gt fp hg=>⟨.int k z,by
  have h1:=(hg.eval hx).val
  subst hz
  simp only[execOp,ho,h1]
  simp[convert,Bf hs,Bf hu,Conv.intToInt,go_sem],.d (.v _)⟩
theorem iW (ho:o.op= .extract x i) (hd:o.dst=some t) (ht:t<C.N) (hx:σ.eval x=some (.tup us)) (hi:us[i]?=some u):Fp P C o σ (σ.put t u):=
 E1 hd ht fun a w bm gt fp hg=>by
  have h:=hg.eval hx
  generalize hv:a.eval x=v at h
  cases h with
  |tup vs h4 h7=>
   have hlt:i<vs.length:=by rw[h4];exact(Ew.1 hi).1
   refine⟨vs[i],?_,h7 i u _ hi (Ev hlt)⟩
   simp only[execOp,ho,hv,Instr.extract]
   simp[go_sem,hlt]
end
theorem add_lit (b o j:Nat):(⟨b,o,none⟩:Addr).add j=⟨b,o+j,none⟩:=by unfold Addr.add;split<;>simp_all
theorem GG.setBox (h:GG C bm gt fp σ a w) {s:List AV} (M:lk k σ.bx=some cs) {f:Array Value} {e:TypeId}
 (E:w.heap[bm k]?=some (.cells cur e (0,0))) (hl:s.length≤f.size) (Y:∀(i:Nat) u v,s[i]?=some u→f[i]?=some v→RA C.W.heap.size fp w bm gt u v):
 GG C bm gt fp {σ with bx:=(k,s)::σ.bx} a (w.setRow (bm k) f):=by
 have N:=h.bx k cs M
 have p:∀j,j≠bm k→(w.setRow (bm k) f).heap[j]?=w.heap[j]?:=fun j g=>setRow_other w (bm k) j f g
 have Q:∀b o,fp b o→b≠bm k:=fun b o F e=>N.un o (e▸F)
 have hc:∀b o,fp b o→(w.setRow (bm k) f).cell? ⟨b,o,none⟩=w.cell? ⟨b,o,none⟩:=fun b o F=>World.cell?_of_block (p b (Q b o F))
 have W:NC w (w.setRow (bm k) f):=NC.one E fun j _ g=>p j g
 have q:∀{u v},RA C.W.heap.size fp w bm gt u v→RA C.W.heap.size fp (w.setRow (bm k) f) bm gt u v:=fun Y=>Y.keep h.zf W (At _) (fun _ _ x=>x) hc
 refine{sz:=h.sz,nN:=h.nN,gd:=h.gd,za:=h.za,zb:=h.zb,zf:=h.zf,ztk:=h.ztk,df:=h.df,tm:=fun t u K=> ?_,bx:=fun j c g=> ?_,bxi:=fun j H c c' g A Z=> ?_,tk:=fun j n sz e g=> ?_,tki:=h.tki,tkb:=fun j H x c g A=> ?_,fpb:=fun b o F=>⟨(h.fpb b o F).1,by rw[setRow_size];exact(h.fpb b o F).2⟩,fp0:=h.fp0,fpB:=h.fpB,bel:= ?_}
 ·obtain⟨v,O,h2⟩:=h.tm t u K
  exact⟨v,O,q h2⟩
 ·by_cases T:k=j
  ·subst T
   simp only[F1,A7] at g
   subst g
   exact⟨N.own,N.un,f,e,setRow_heap w (bm k) cur f e (0,0) E,hl,fun i u v K U=>q (Y i u v K U)⟩
  ·simp only[Gm _ _ T] at g
   have X:=h.bx j c g
   obtain⟨L,e2,O,h2,h3⟩:=X.obj
   have V:bm j≠bm k:=fun Z=>T (h.bxi k j cs c M g Z.symm)
   exact⟨X.own,X.un,L,e2,(p _ V).trans O,h2,fun i u v K U=>q (h3 i u v K U)⟩
 ·have J:∀(i:Nat) d,lk i ((k,s)::σ.bx)=some d→∃d',lk i σ.bx=some d':=fun i d hd=>by
   grind [Gm]
  obtain⟨d,hd⟩:=J j c g
  obtain⟨d',R⟩:=J H c' A
  exact h.bxi j H d d' hd R Z
 ·have I:=h.tk j n sz e g
  obtain⟨xs,hxs⟩:=I.own
  refine⟨⟨xs,hxs.kept (row:=some (bm k)) ⟨rfl,rfl,rfl,by rw[setRow_size];exact At _,fun i _ hi=>p i (fun e=>hi (by rw[e]))⟩ (.inr (h.tkb j k _ cs g M))⟩,I.tail⟩
 ·by_cases ei:k=H
  ·subst ei;exact h.tkb j k x cs g M
  ·simp only[Gm _ _ ei] at A;exact h.tkb j H x c g A
 ·exact h.bel.trans ⟨rfl,rfl,rfl,by rw[setRow_size];exact At _,fun i hi=>p i (fun e=>by have:=N.own;omega)⟩
def BM.set (bm:BM) (k g:Nat):BM:=⟨fun j=>if j=k then g else bm.m j,bm.z⟩
theorem I2 (bm:BM) (k g:Nat):(bm.set k g).m k=g:=by simp[BM.set]
theorem Mn (bm:BM) (k g:Nat) (h:j≠k):(bm.set k g).m j=bm.m j:=by simp[BM.set,h]
theorem GG.newBox (h:GG C bm gt fp σ a w) (X:σ.clean k=true) (N:Fu k cs=true) {e:TypeId}
 (hl:cs.length≤cur.size) (U:∀(i:Nat) u v,cs[i]?=some u→cur[i]?=some v→RA C.W.heap.size fp w bm gt u v):
 GG C (bm.set k w.heap.size) gt fp {σ with bx:=(k,cs)::σ.bx} a (w.alloc (.cells cur e)):=by
 have I:Below w.heap.size w (w.alloc (.cells cur e)):=(Bq _ _).alloc (At _) _
 have K:=h.grow (w':=w.alloc (.cells cur e)) I
 simp only[AS.clean,Et] at X
 have A:∀{u v w2},RA C.W.heap.size fp w2 bm gt u v→u.clean k=true→RA C.W.heap.size fp w2 (bm.set k w.heap.size) gt u v:=fun U T=>U.turn (k:=k) (fun j f=>Mn bm k _ f) (fun _ _ x=>x) (fun _ _=>rfl) T
 have H:∀b o,fp b o→(w.alloc (.cells cur e)).cell? ⟨b,o,none⟩=w.cell? ⟨b,o,none⟩:=fun b o L=>I.cell (p:=⟨b,o,none⟩) (h.fpb b o L).2
 refine{sz:=h.sz,nN:=h.nN,gd:=h.gd,za:=h.za,zb:=h.zb,zf:=h.zf,ztk:=h.ztk,df:=h.df,tm:=fun t u F=> ?_,bx:=fun j c f=> ?_,bxi:=fun j E c c' f q Z=> ?_,tk:=K.tk,tki:=h.tki,tkb:=fun j E x c f q=> ?_,fpb:=K.fpb,fp0:=h.fp0,fpB:=h.fpB,bel:=K.bel}
 ·obtain⟨v,W,h2⟩:=K.tm t u F
  grind [sI]
 ·by_cases M:k=j
  ·subst M
   simp only[F1,A7] at f
   subst f
   refine⟨?_,fun o L=> ?_,cur,e,?_,hl,fun i u v F Q=> ?_⟩
   ·rw[I2];exact h.bel.size
   ·rw[I2] at L;have:=(h.fpb _ _ L).2;omega
   ·rw[I2];exact heap_alloc_new w _
   ·exact A ((U i u v F Q).keep h.zf (NC.below I) (At _) (fun _ _ x=>x) H) (Ih N F)
  ·simp only[Gm _ _ M] at f
   have R:=K.bx j c f
   obtain⟨J,s,W,h2,h3⟩:=R.obj
   have g:(bm.set k w.heap.size).m j=bm.m j:=Mn bm k _ (fun e=>M e.symm)
   refine⟨by rw[g];exact R.own,by rw[g];exact R.un,J,s,by rw[g];exact W,h2,fun i u v F Q=>A (h3 i u v F Q) (Ih (sJ X.2 f) F)⟩
 ·have lt:∀(i:Nat) d,k≠i→lk i ((k,cs)::σ.bx)=some d→lk i σ.bx=some d∧bm i<w.heap.size:=fun i d g O=>by
   rw[Gm _ _ g] at O;exact⟨O,(h.bx i d O).lt⟩
  by_cases Y:j=k
  ·grind [I2,Mn]
  ·by_cases s:E=k
   ·grind [I2,Mn]
   ·rw[Mn bm k _ Y,Mn bm k _ s] at Z
    exact h.bxi j E c c' (lt j c (fun e=>Y e.symm) f).1 (lt E c' (fun e=>s e.symm) q).1 Z
 ·by_cases s:E=k
  ·rw[s,I2]
   obtain⟨xs,V⟩:=(h.tk j x.1 x.2.1 x.2.2 f).own
   intro ho
   have:=(V.lt _ ho).2
   omega
  ·rw[Mn bm k _ s]
   simp only[Gm _ _ (fun e=>s e.symm:k≠E)] at q
   exact h.tkb j E x c f q
def AV.one:AV→Bool
 | .d (.v x)=>x.oneCell'
 | .d _=>true
 | .ptr _ _=>true
 | .own _ _ _ _ _=>true
 | .sem _=>true
 | .cl _ _ _=>true
 | .pk _ _ _ _=>true
 |_=>false
def AV.cells:AV→List AV
 | .agg cs=>cs
 |u=>[u]
def aD:List AV→Bool
 |[]=>true
 |u::r=>u.one&&aD r
def AV.flat:AV→Bool
 | .agg cs=>aD cs
 |u=>u.one
theorem Vt:∀{l:List AV} {i:Nat} {u:AV},aD l=true→l[i]?=some u→u.one=true
 |[],_,_,_,h=>by simp at h
 |c::r,0,u,hc,h=>by grind [aD]
 |c::r,i+1,u,hc,h=>by
  simp only[aD,Et] at hc
  exact Vt hc.2 (by simpa using h)
theorem RA.oneCell (h:RA B fp w bm gt u v) (c:u.one=true):v.oneCell'=true:=by
 cases h with
 |d h=>cases h with
  |v x=>exact c
  |sl=>rfl
  |cp=>rfl
  |fn=>rfl
 |ptr=>rfl
 |own h=>
  generalize gt _=v at h
  cases h;rfl
 |agg=>cases c
 |tup=>cases c
 |sem e _=>exact e
 |cl=>rfl
 |pk=>rfl
theorem RA.cells {B:Nat} {fp:Nat→Nat→Prop} {w:World} {bm:BM} {gt:Nat→Value} {u:AV} {v:Value} (h:RA B fp w bm gt u v) (c:u.flat=true):
 v.cells.toList.length=u.cells.length∧(∀(i:Nat) x y,u.cells[i]?=some x→v.cells.toList[i]?=some y→RA B fp w bm gt x y)∧(∀y∈v.cells.toList,y.oneCell'=true):=by
 have single:∀{u v},RA B fp w bm gt u v→u.one=true→u.cells=[u]→v.cells.toList=[v]→v.cells.toList.length=u.cells.length∧(∀(i:Nat) x y,u.cells[i]?=some x→v.cells.toList[i]?=some y→RA B fp w bm gt x y)∧(∀y∈v.cells.toList,y.oneCell'=true):=by
  intro u v h c K H
  rw[K,H]
  refine⟨rfl,fun i x y E p=> ?_,fun y p=> ?_⟩
  ·grind
  ·simp at p;subst p;exact h.oneCell c
 have g:∀{v:Value},v.oneCell'=true→v.cells.toList=[v]:=by
  intro v I;cases v<;>first|rfl|cases I
 cases u with
 |d x=>exact single h c rfl (g (h.oneCell c))
 |ptr k off=>exact single h c rfl (g (h.oneCell c))
 |own k n sz e cs=>exact single h c rfl (g (h.oneCell c))
 |sem L=>exact single h c rfl (g (h.oneCell c))
 |cl f M cs=>exact single h c rfl (g (h.oneCell c))
 |pk k off n sz=>exact single h c rfl (g (h.oneCell c))
 |tup xs=>cases c
 |agg cs=>
  cases h with
  |agg vs s F=>
   refine⟨by simpa[Value.cells,AV.cells] using s,fun i x y E p=>F i x y E (by simpa[Value.cells] using p),fun y p=> ?_⟩
   simp only[Value.cells] at p
   obtain⟨i,J,rfl⟩:=Df p
   have q:i<cs.length:=by rw[←s];simpa using J
   have:=F i cs[i] vs[i] (Ev q) (Ev (by rw[s];exact q))
   have A:cs[i].one=true:=Vt (l:=cs) c (Ev q)
   exact this.oneCell A
def Kg {α:Type} (l:List α) (o:Nat) (m:List α):List α:=l.take o++m++l.drop (o+m.length)
theorem Mo {c:Type} (l:List c) (o:Nat) (m:List c) (h:o+m.length≤l.length):(Kg l o m).length=l.length:=by
 unfold Kg;simp;omega
theorem Q3 {c:Type} {l:List c} {o:Nat} {m:List c} (h:o+m.length≤l.length) (i:Nat):(Kg l o m)[i]?=if i<o then l[i]? else if i<o+m.length then m[i-o]? else l[i]?:=by
 unfold Kg
 grind
theorem aE {c:List AV} {vs d:List Value} {o:Nat} (q:us.length≤vs.length) (g:d.length=c.length) (f:o+c.length≤us.length)
 (p:∀(i:Nat) x y,us[i]?=some x→vs[i]?=some y→RA B fp w bm gt x y) (s:∀(i:Nat) x y,c[i]?=some x→d[i]?=some y→RA B fp w bm gt x y) (i:Nat) (x:AV) (y:Value) (h:(Kg us o c)[i]?=some x) (e:(Kg vs o d)[i]?=some y):RA B fp w bm gt x y:=by
 rw[Q3 f] at h
 rw[Q3 Aa,g] at e
 grind
section
variable {P:Program} {C:Cx} {o:Oper} {σ:AS} {t:Nat}
theorem DL {ty:TypeId} {d:TypeDesc} (M:o.op= .load ty x) (K:o.dst=some t) (H:t<C.N) (J:σ.eval x=some (.ptr k off)) (A:lk k σ.bx=some cs)
 (E:TyOk P ty d z sz by') (q:Om d=false) (f:cs[off]?=some u):Fp P C o σ (σ.put t u):=
 E1 K H fun a w bm gt fp g=>by
  have h:=g.eval J
  generalize N:a.eval x=v at h
  cases h with
  |ptr=>
   obtain⟨cur,e,p,I,s⟩:=(g.bx k cs A).obj
   have c:off<cur.size:=Ci (Ew.1 f).1 I
   refine⟨cur[off],?_,s off u _ f (Array.getElem?_eq_getElem c)⟩
   have F:w.cell? ⟨bm k,off,none⟩=some cur[off]:=by rw[cell_of_row w _ _ _ _ _ p];exact Array.getElem?_eq_getElem c
   have L:(loadVar ty ⟨bm k,off,none⟩).run P w= .ok cur[off] w:=by
    unfold loadVar
    rw[Au,E.agg,q]
    simp[Result.andThen,load,Sem.run,F]
   grind [execOp,Instr.loadAt,Instr.sureAddr,Sem.run_bind,Sem.run_pure,Result.andThen_ok]
theorem Mp {ty:TypeId} {d:TypeDesc} (w:World) (b off:Nat) (vs:List Value) (c:TyOk P ty d z vs.length by') (e:Om d=true) (h:∀j v,vs[j]?=some v→w.cell? ⟨b,off+j,none⟩=some v):(loadVar ty ⟨b,off,none⟩).run P w= .ok (.agg vs.toArray) w:=by
 unfold loadVar
 rw[Au,c.agg,e]
 have:=run_loadCells_list (P:=P) w ⟨b,off,none⟩ vs (fun j v f=>by rw[add_lit];exact h j v f)
 simp[Result.andThen,c.size,this,Au]
theorem sM {ty:TypeId} {d:TypeDesc} (O:o.op= .load ty x) (I:o.dst=some t) (E:t<C.N) (q:σ.eval x=some (.ptr k off)) (A:lk k σ.bx=some cs)
 (L:TyOk P ty d z sz by') (J:Om d=true) (K:(cs.drop off).take sz=us) (p:us.length=sz):Fp P C o σ (σ.put t (.agg us)):=
 E1 I E fun a w bm gt fp s=>by
  have h:=s.eval q
  generalize Q:a.eval x=v at h
  cases h with
  |ptr=>
   obtain⟨cur,e,M,U,R⟩:=(s.bx k cs A).obj
   obtain⟨vs,g⟩:∃vs,(cur.toList.drop off).take sz=vs:=⟨_,rfl⟩
   have f:vs.length=us.length:=by
    have H:((cs.drop off).take sz).length=sz:=by rw[K];exact p
    rw[←g,p,Ec,Eh,Bm]
    rw[Ec,Eh] at H
    omega
   have c:vs.length=sz:=by rw[f,p]
   refine⟨.agg vs.toArray,?_,.agg vs f fun i x y q T=> ?_⟩
   ·subst c
    have F:=Mp (P:=P) (ty:=ty) w (bm k) off vs L J fun j v N=>by
     grind [cell_of_row]
    grind [execOp,Instr.loadAt,Instr.sureAddr,Sem.run_bind,Sem.run_pure,Result.andThen_ok]
   grind
theorem sN {ty:TypeId} {d:TypeDesc} {u:D} (J:o.op= .load ty x) (s:o.dst=some t) (p:t<C.N) (q:σ.eval x=some (.d (.cp tg ds)))
 (F:TyOk P ty d z sz by') (A:Om d=false) (f:ds[0]?=some u):Fp P C o σ (σ.put t (.d u)):=
 E1 s p fun a w bm gt fp H=>by
  have h:=H.eval q
  generalize K:a.eval x=v at h
  cases h with
  |d h=>cases h with
   |@cp _ _ b off us E I g=>
    have c:0<us.length:=by rw[E];exact(Ew.1 f).1
    refine⟨us[0],?_,.d (I 0 u _ f (Ev c))⟩
    have e:=(g 0 _ (Ev c)).2.2
    have L:(loadVar ty ⟨b,off,none⟩).run P w= .ok us[0] w:=by
     unfold loadVar
     rw[Au,F.agg,A]
     rw[Nat.add_zero] at e
     simp[Result.andThen,load,Sem.run,e]
    grind [execOp,Instr.loadAt,Instr.sureAddr,Sem.run_bind,Sem.run_pure,Result.andThen_ok]
theorem mG {ty:TypeId} {d:TypeDesc} (K:o.op= .load ty x) (s:o.dst=some t) (q:t<C.N) (c:σ.eval x=some (.d (.cp tg ds)))
 (N:TyOk P ty d z sz by') (M:Om d=true) (A:ds.length=sz) (p:ds.map AV.d=us):Fp P C o σ (σ.put t (.agg us)):=
 E1 s q fun a w bm gt fp H=>by
  have h:=H.eval c
  generalize L:a.eval x=v at h
  cases h with
  |d h=>cases h with
   |@cp _ _ b off vs g I J=>
    have f:vs.length=sz:=by rw[g,A]
    refine⟨.agg vs.toArray,?_,.agg vs (by rw[←p,Ba,g]) fun i x y c E=> ?_⟩
    ·grind [Mp,execOp,Instr.loadAt,Instr.sureAddr,Sem.run_bind,Sem.run_pure,Result.andThen_ok]
    ·rw[←p,Bk,A8] at c
     obtain⟨F,e,rfl⟩:=c
     exact .d (I i F y e E)
theorem sO {ty:TypeId} {d:TypeDesc} (T:o.op= .store ty x y) (V:o.dst=none) (F:σ.eval x=some (.ptr k off)) (M:lk k σ.bx=some cs) (J:σ.eval y=some u)
 (Z:TyOk P ty d z sz by') (R:u.flat=true) (I:u.cells.length=sz) (hb:off+sz≤cs.length):Fp P C o σ {σ with bx:=(k,Kg cs off u.cells)::σ.bx}:=by
 rintro a w ⟨bm,gt,fp,s⟩ K Q O
 have h:=s.eval F
 have N:=s.eval J
 generalize W:a.eval x=v at h
 generalize A:a.eval y=v' at N
 cases h with
 |ptr=>
  obtain⟨cur,e,L,h2,Y⟩:=(s.bx k cs M).obj
  obtain⟨E,k2,k3⟩:=N.cells R
  have g:=run_storeCells_at P (bm k) off e v'.cells.toList 0 cur w L (by rw[Nat.add_zero,E,I];omega) k3
  simp only[Nat.add_zero] at g
  have f:(execOp a.eval o).run P w= .ok .skip (w.setRow (bm k) (Kg cur.toList off v'.cells.toList).toArray):=by
   simp only[execOp,T,W,A,Instr.storeAt,Instr.sureAddr,storeVar]
   have H:v'.cells.size=sz:=by rw[←Bm,E,I]
   have c:¬(v'.cells.size≠sz):=by rw[H];simp
   simp only[Au,Bs,A6,Z.size]
   rw[Ai c]
   simp only[A6,g,Kg]
  unfold Oper.wp
  rw[f,Oper.upon_skip,V]
  refine O _ _ ⟨bm,gt,fp,s.setBox M L ?_ ?_⟩
  ·grind [Mo,Array.length_toList,List.size_toArray]
  ·intro i p q X U
   refine aE (by rw[Bm];exact h2) E (by rw[I];exact hb) (fun i x y F J=>Y i x y F (by simpa using J)) k2 i p q X (by simpa using U)
theorem sP {ty:TypeId} {d:TypeDesc} {zs:List AV} (ho:o.op= .alloc ty) (hd:o.dst=some t) (ht:t<C.N) (hT:TyOk P ty d z sz by') (hz:z.cells.toList.map (fun x=>AV.d (.v x))=zs) (hc:σ.clean κ=true):
 Fp P C o σ {tm:=(t,.ptr κ 0)::σ.tm,bx:=(κ,zs)::σ.bx,tk:=σ.tk}:=by
 rintro a w ⟨bm,gt,fp,hg⟩ K Q hK
 have hrun:(execOp a.eval o).run P w= .ok (.value (.pointer (some ⟨w.heap.size,0,none⟩))) (w.alloc (.cells z.cells ty)):=by
  simp only[execOp,ho,Instr.alloc,newVar,newRow]
  simp[go_sem,hT.zero]
 unfold Oper.wp
 rw[hrun,Oper.upon_value,hd]
 have hcl:∀l:List Value,Fu κ (l.map fun x=>AV.d (.v x))=true:=by
  intro l
  induction l with
  |nil=>rfl
  |cons x r ih=>simp[Fu,AV.clean,ih]
 have h1:=hg.newBox (k:=κ) hc (cs:=zs) (cur:=z.cells) (e:=ty) (by rw[←hz];exact hcl _) (by rw[←hz];simp) (fun i u v hu hv=>by
  rw[←hz,Bk] at hu
  simp only[Cg,hv,Ch,A7] at hu
  subst hu
  exact .d (.v _))
 have h2:=h1.put (t:=t) (u:= .ptr κ 0) ht .ptr
 rw[I2] at h2
 exact hK _ _ ⟨_,_,_,h2⟩
theorem JL {ty:TypeId} {d:TypeDesc} (ho:o.op= .box ty x) (hd:o.dst=some t) (ht:t<C.N) (hx:σ.eval x=some u) (_:TyOk P ty d z sz by') (hf:u.flat=true) (hc:σ.clean κ=true) (hcu:u.clean κ=true):
 Fp P C o σ {tm:=(t,.ptr κ 0)::σ.tm,bx:=(κ,u.cells)::σ.bx,tk:=σ.tk}:=by
 rintro a w ⟨bm,gt,fp,hg⟩ K Q hK
 obtain⟨k1,k2,k3⟩:=(hg.eval hx).cells hf
 have hrun:(execOp a.eval o).run P w= .ok (.value (.pointer (some ⟨w.heap.size,0,none⟩))) (w.alloc (.cells (a.eval x).cells ty)):=by
  simp only[execOp,ho,Instr.box,newVar,newRow]
  simp[go_sem]
 unfold Oper.wp
 rw[hrun,Oper.upon_value,hd]
 have hcl:Fu κ u.cells=true:=by
  cases u<;>simp_all[AV.cells,Fu,AV.clean]
 have h1:=hg.newBox (k:=κ) hc (cs:=u.cells) (cur:=(a.eval x).cells) (e:=ty) hcl (by rw[←k1];simp) (fun i p q hp hq=>k2 i p q hp (by simpa using hq))
 have h2:=h1.put (t:=t) (u:= .ptr κ 0) ht .ptr
 rw[I2] at h2
 exact hK _ _ ⟨_,_,_,h2⟩
structure FldOk (P:Program) (ty:TypeId) (i off sz:Nat) (ag:Bool):Prop where
 ex:∃(fs:Array Field) (f:Field) (d:TypeDesc) (z:Value) (by':Nat),P.underlying ty=some (.struct fs)∧fs[i]?=some f∧f.offset=off∧TyOk P f.type d z sz by'∧Om d=ag
theorem FldOk.pos {ty:TypeId} (h:FldOk P ty i off sz ag) (h0:0<sz) (w:World) (b p:Nat):(Instr.fieldAt ty (.pointer (some ⟨b,p,none⟩)) i).run P w= .ok (.pointer (some ⟨b,p+off,none⟩)) w:=by
 obtain⟨fs,f,d,z,by',h1,h2,h3,h4,h5⟩:=h.ex
 subst h3
 have:sz≠0:=Aa
 simp[Instr.fieldAt,Instr.sureAddr,fieldPlace,go_sem,Bf h1,h2,h4.size,this,add_lit]
theorem aF {ty:TypeId} {p:Nat} (c:o.op= .fieldAddr ty x i) (s:o.dst=some t) (d:t<C.N) (f:FldOk P ty i off sz ag) (q:0<sz) (g:σ.eval x=some (.ptr k p)):Fp P C o σ (σ.put t (.ptr k (p+off))):=
 E1 s d fun a w bm gt fp e=>by
  have h:=e.eval g
  generalize A:a.eval x=v at h
  cases h with
  |ptr=>
   refine⟨_,?_,.ptr⟩
   simp only[execOp,c,A]
   rw[Au,f.pos q]
   rfl
theorem Y4 {ty:TypeId} {c:List D} (f:o.op= .fieldAddr ty x i) (E:o.dst=some t) (g:t<C.N) (K:FldOk P ty i off sz ag) (A:0<sz) (s:σ.eval x=some (.d (.cp tg ds))) (e:(ds.drop off).take sz=c):Fp P C o σ (σ.put t (.d (.cp tg c))):=
 E1 E g fun a w bm gt fp J=>by
  have h:=J.eval s
  generalize F:a.eval x=v at h
  cases h with
  |d h=>cases h with
   |@cp _ _ b p us H N L=>
    refine⟨.pointer (some ⟨b,p+off,none⟩),?_,.d (.cp ((us.drop off).take sz) (by rw[←e];simp[H]) (fun j q r M I=> ?_) fun j r I=> ?_)⟩
    ·simp only[execOp,f,F]
     rw[Au,K.pos A]
     rfl
    all_goals grind
theorem sQ {ty:TypeId} (ho:o.op= .field ty x i) (hd:o.dst=some t) (ht:t<C.N) (hF:FldOk P ty i off sz false) (hx:σ.eval x=some (.agg us)) (hu:us[off]?=some u):Fp P C o σ (σ.put t u):=
 E1 hd ht fun a w bm gt fp hg=>by
  have h:=hg.eval hx
  generalize hv:a.eval x=v at h
  cases h with
  |agg vs h4 h7=>
   obtain⟨fs,f,d,z,by',h1,h2,h3,h5,h6⟩:=hF.ex
   have hlt:off<vs.length:=by rw[h4];exact(Ew.1 hu).1
   refine⟨vs[off],?_,h7 off u _ hu (Ev hlt)⟩
   subst h3
   simp only[execOp,ho,hv,Instr.field,part,asAgg]
   simp[go_sem,Bf h1,h2,h5.agg,h6,hlt]
theorem mH {ty:TypeId} {us':List AV} (ho:o.op= .field ty x i) (hd:o.dst=some t) (ht:t<C.N) (hF:FldOk P ty i off sz true) (hx:σ.eval x=some (.agg us)) (hu:(us.drop off).take sz=us'):Fp P C o σ (σ.put t (.agg us')):=
 E1 hd ht fun a w bm gt fp hg=>by
  have h:=hg.eval hx
  generalize hv:a.eval x=v at h
  cases h with
  |agg vs h4 h7=>
   obtain⟨fs,f,d,z,by',h1,h2,h3,h5,h6⟩:=hF.ex
   refine⟨.agg ((vs.drop off).take sz).toArray,?_,.agg _ (by rw[←hu];simp[h4]) fun j q r hq hr=> ?_⟩
   ·subst h3
    simp only[execOp,ho,hv,Instr.field,part,asAgg]
    simp[go_sem,Bf h1,h2,h5.agg,h6,h5.size]
   grind
end
mutual
theorem On (k:Nat):∀u:AV,u.clean k=true→u.share k=u
 | .d _,_=>rfl
 | .ptr _ _,_=>rfl
 | .own j n sz e cs,h=>by
   grind [AV.clean,AV.share,Nat.beq]
 | .agg cs,h=>by rw[AV.share,H4 k cs h]
 | .tup cs,h=>by rw[AV.share,H4 k cs h]
 | .sem _,_=>rfl
 | .cl f fs cs,h=>by
   simp only[AV.clean,Et] at h
   rw[AV.share,H4 k fs h.1,H4 k cs h.2]
 | .pk _ _ _ _,_=>rfl
theorem H4 (k:Nat):∀l:List AV,Fu k l=true→Hq k l=l
 |[],_=>rfl
 |c::r,h=>by
  simp only[Fu,Et] at h
  rw[Hq,On k c h.1,H4 k r h.2]
end
theorem Te {k:Nat}:∀{l:List (Nat×AV)},clT k l=true→shT k l=l
 |[],_=>rfl
 |(j,c)::r,h=>by
  simp only[clT,Et] at h
  rw[shT,On k c h.1,Te h.2]
theorem Qe {k:Nat}:∀{l:List (Nat×List AV)},clB k l=true→shB k l=l
 |[],_=>rfl
 |(j,c)::r,h=>by
  simp only[clB,Et] at h
  rw[shB,H4 k c h.1,Qe h.2]
def Nh (gt:Nat→Value) (k:Nat) (v:Value):Nat→Value:=fun j=>if j=k then v else gt j
theorem Gk (gt:Nat→Value) (k:Nat) (v:Value):Nh gt k v k=v:=by simp[Nh]
theorem Jg (gt:Nat→Value) (k:Nat) (v:Value) (h:j≠k):Nh gt k v j=gt j:=by simp[Nh,h]
theorem GG.adopt (h:GG C bm gt fp σ a w) (Q:σ.clean k=true) (sz:Nat) (e:TypeId):
 GG C bm (Nh gt k (.slice none 0 0)) fp {σ with tk:=(k,0,sz,e)::σ.tk} a w:=by
 simp only[AS.clean,Et] at Q
 have H:∀{u v},RA C.W.heap.size fp w bm gt u v→u.clean k=true→RA C.W.heap.size fp w bm (Nh gt k (.slice none 0 0)) u v:=fun hr N=>hr.turn (fun _ _=>rfl) (fun _ _ x=>x) (fun j d=>Jg _ _ _ d) N
 have p:∀j (x:Nat×Nat×TypeId),j≠k→lk j ((k,0,sz,e)::σ.tk)=some x→lk j σ.tk=some x:=fun j x d hx=>by grind [Gm]
 refine{sz:=h.sz,nN:=h.nN,gd:=h.gd,za:=h.za,zb:=h.zb,zf:=h.zf,ztk:=fun j x d g A o=> ?_,df:=h.df,tm:=fun t u L=> ?_,bx:=fun j c d=> ?_,bxi:=h.bxi,tk:=fun j n s W d=> ?_,tki:=fun j F x Z d q K E=> ?_,tkb:=fun j F x c d q=> ?_,fpb:=h.fpb,fp0:=h.fp0,fpB:=h.fpB,bel:=h.bel}
 ·by_cases f:j=k
  ·subst f;rw[Gk] at A;cases A
  ·rw[Jg _ _ _ f] at A;exact h.ztk j x (p j x f d) g A o
 ·obtain⟨v,O,V⟩:=h.tm t u L
  grind [sI]
 ·have M:=h.bx j c d
  obtain⟨I,J,O,V,Y⟩:=M.obj
  exact⟨M.own,M.un,I,J,O,V,fun i u v L X=>H (Y i u v L X) (Ih (sJ Q.2 d) L)⟩
 ·by_cases f:j=k
  ·subst f
   simp only[F1,A7,Prod.mk.injEq] at d
   obtain⟨rfl,rfl,rfl⟩:=d
   rw[Gk]
   exact⟨⟨[],World.ownsRow_nil _ _ _ _⟩,fun g A=>by cases A⟩
  ·rw[Jg _ _ _ f]
   exact h.tk j n s W (p j _ f d)
 ·have R:∀i,(Nh gt k (.slice none 0 0) i).ownBlock≠none→i≠k:=fun i T e=>by subst e;rw[Gk] at T;exact T rfl
  have U:=R j K
  have J:=R F (E▸K)
  rw[Jg _ _ _ U] at K E
  rw[Jg _ _ _ J] at E
  exact h.tki j F x Z (p j _ U d) (p F _ J q) K E
 ·by_cases f:j=k
  ·subst f;rw[Gk];intro E;cases E
  ·rw[Jg _ _ _ f];exact h.tkb j F x c (p j _ f d) q
theorem GG.retok (h:GG C bm gt fp σ a w) {n':Nat} {e:TypeId} {v':Value} (Q:lk k σ.tk=some (n,sz,e)) (hs:w.heap.size≤w'.heap.size) (hbel:Below C.W.heap.size C.W w')
 (K:∀j,j<w.heap.size→(gt k).ownBlock≠some j→w'.heap[j]?=w.heap[j]?) (hcl:∀g o,(gt k).ownBlock=some g→o<n*sz→w'.cell? ⟨g,o,none⟩=w.cell? ⟨g,o,none⟩)
 (T:∃xs,w'.ownsRow C.W.heap.size e sz v' n' xs) (V:∀g,v'.ownBlock=some g→((gt k).ownBlock=some g∧n*sz≤n'*sz)∨w.heap.size≤g):
 GG C bm (Nh gt k v') (fun b o=>fp b o∨(v'.ownBlock=some b∧o<n'*sz)) ⟨shT k σ.tm,shB k σ.bx,(k,n',sz,e)::σ.tk⟩ a w':=by
 have hfc:∀b o,fp b o→w'.cell? ⟨b,o,none⟩=w.cell? ⟨b,o,none⟩:=fun b o d=>by
  by_cases hb:(gt k).ownBlock=some b
  ·refine hcl b o hb ?_
   rcases Nat.lt_or_ge o (n*sz) with f|f
   ·exact f
   ·exact Bg d ((h.tk k n sz e Q).tail b hb o f)
  ·exact World.cell?_of_block (K b (h.fpb b o d).2 hb)
 have hnc:NC w w':=by
  obtain⟨xs,E⟩:=(h.tk k n sz e Q).own
  rcases E.2 with⟨L,_⟩|⟨g,cap,cur,X,R,e3,_⟩
  ·exact fun b ob f _=>(K b (Br.1 f).1 (by rw[L];intro hh;cases hh)).trans f
  ·grind [NC.one,Value.ownBlock,Option.some.injEq]
 have Z:∀{u v},RA C.W.heap.size fp w bm gt u v→RA C.W.heap.size (fun b o=>fp b o∨(v'.ownBlock=some b∧o<n'*sz)) w' bm (Nh gt k v') (u.share k) v:=fun hr=>
  (hr.keep h.zf hnc (At _) (fun _ _ x=> .inl x) hfc).share fun j A=>Jg _ _ _ A
 have J:∀j (x:Nat×Nat×TypeId),j≠k→lk j ((k,n',sz,e)::σ.tk)=some x→lk j σ.tk=some x:=fun j x A hx=>by grind [Gm]
 have tlt:∀j (x:Nat×Nat×TypeId),lk j σ.tk=some x→∀g,(gt j).ownBlock=some g→C.W.heap.size≤g∧g<w.heap.size:=fun j x A g q=>by
  obtain⟨xs,E⟩:=(h.tk j x.1 x.2.1 x.2.2 A).own
  exact E.lt g q
 refine{sz:=h.sz,nN:=h.nN,gd:=h.gd,za:=h.za,zb:=h.zb,zf:=fun b o hz=> .inl (h.zf b o hz),ztk:=fun j x A g q o hz=> ?_,df:=h.df,tm:=fun t u hu=> ?_,bx:=fun j c A=> ?_,bxi:=fun j M c c' A p O=> ?_,tk:=fun j m s e' A=> ?_,tki:=fun j M x x' A p W O=> ?_,tkb:=fun j M x c A p=> ?_,fpb:=fun b o d=> ?_,fp0:=fun b o d=> .inl (h.fp0 b o d),fpB:=h.fpB,bel:=hbel}
 ·by_cases H:j=k
  ·subst H
   rw[Gk] at q
   rcases V g q with⟨f,_⟩|f
   ·exact h.ztk j _ Q g f o hz
   ·have:=(h.fpb g o (h.zf g o hz)).2;omega
  ·rw[Jg _ _ _ H] at q
   exact h.ztk j x (J j x H A) g q o hz
 ·rw[sH,A8] at hu
  obtain⟨u0,hu0,rfl⟩:=hu
  obtain⟨v,f,Y⟩:=h.tm t u0 hu0
  exact⟨v,f,Z Y⟩
 ·rw[aB,A8] at A
  obtain⟨N,F,rfl⟩:=A
  have U:=h.bx j N F
  obtain⟨cur2,R,f,Y,h3⟩:=U.obj
  refine⟨U.own,fun o d=> ?_,cur2,R,(K _ U.lt (h.tkb k j _ N Q F)).trans f,by rw[Hu,Ba];exact Y,fun i u v hu V=> ?_⟩
  ·rcases d with d|⟨d,_⟩
   ·exact U.un o d
   ·rcases V _ d with⟨d,_⟩|d
    ·exact h.tkb k j _ N Q F d
    ·have:=U.lt;omega
  ·rw[Hu,Bk,A8] at hu
   grind
 ·rw[aB,A8] at A p
  obtain⟨N,F,rfl⟩:=A
  obtain⟨c1,hc1,rfl⟩:=p
  exact h.bxi j M N c1 F hc1 O
 ·by_cases H:j=k
  ·subst H
   simp only[F1,A7,Prod.mk.injEq] at A
   obtain⟨rfl,rfl,rfl⟩:=A
   rw[Gk]
   refine⟨T,fun g q o ho d=> ?_⟩
   rcases d with d|⟨_,d⟩
   ·rcases V g q with⟨f,Y⟩|f
    ·exact(h.tk j n sz e Q).tail g f o Aa d
    ·have:=(h.fpb g o d).2;omega
   ·omega
  ·rw[Jg _ _ _ H]
   have p:=J j _ H A
   obtain⟨xs,E⟩:=(h.tk j m s e' p).own
   have hne:∀g,(gt j).ownBlock=some g→(gt k).ownBlock≠some g:=fun g q I=>H (h.tki j k _ _ p Q (by rw[q];simp) (by rw[q,I]))
   refine⟨⟨xs,E.1,?_⟩,fun g q o ho d=> ?_⟩
   ·rcases E.2 with L|⟨g,cap,cur,f,Y,h3,h4⟩
    ·exact .inl L
    ·refine .inr ⟨g,cap,cur,f,Y,?_,h4⟩
     have q:(gt j).ownBlock=some g:=by rw[f];rfl
     grind
   ·rcases d with d|⟨d,_⟩
    ·exact(h.tk j m s e' p).tail g q o ho d
    grind
 ·have cross:∀i (y:Nat×Nat×TypeId),i≠k→lk i σ.tk=some y→∀g,v'.ownBlock=some g→(gt i).ownBlock≠some g:=fun i y hi U g q I=>by
   rcases V g q with⟨f,_⟩|f
   ·exact hi (h.tki i k _ _ U Q (by rw[I];simp) (by rw[I,f]))
   ·have:=(tlt i _ U g I).2;omega
  by_cases X:j=k
  ·by_cases R:M=k
   ·rw[X,R]
   ·exfalso
    rw[X,Gk] at W O
    rw[Jg _ _ _ R] at O
    cases q:v'.ownBlock with
    |none=>exact W q
    |some g=>grind
  ·by_cases R:M=k
   ·exfalso
    rw[Jg _ _ _ X] at W O
    rw[R,Gk] at O
    cases q:(gt j).ownBlock with
    |none=>exact W q
    |some g=>grind
   ·rw[Jg _ _ _ X] at W O
    rw[Jg _ _ _ R] at O
    exact h.tki j M x x' (J j _ X A) (J M _ R p) W O
 ·rw[aB,A8] at p
  obtain⟨N,F,rfl⟩:=p
  by_cases H:j=k
  ·rw[H,Gk]
   intro q
   rcases V _ q with⟨f,_⟩|f
   ·exact h.tkb k M _ N Q F f
   ·have:=(h.bx M N F).lt;omega
  ·rw[Jg _ _ _ H];exact h.tkb j M x N (J j _ H A) F
 ·rcases d with d|⟨d,_⟩
  ·exact⟨(h.fpb b o d).1,Ci (h.fpb b o d).2 hs⟩
  ·obtain⟨xs,E⟩:=T
   exact⟨.inr (E.lt b d).1,(E.lt b d).2⟩
def AV.asSl (sz:Nat):AV→Option (Nat×List D)
 | .d (.sl _ n s cs)=>bif Nat.beq s sz then some (n,cs) else none
 | .own _ n s _ cs=>bif Nat.beq s sz then some (n,cs) else none
 | .d (.v (.slice none 0 0))=>some (0,[])
 |_=>none
theorem Rd.untag {t:Bool} {cs:List D} (h:Rd B fp w (.sl t n sz cs) v):Rd B fp w (.sl false n sz cs) v:=by
 cases h with
 |sl us c g e f p d q A=>
  refine .sl us c g e f p d q fun i u s=> ?_
  grind
theorem Rd.len {t:Bool} {cs:List D} (h:Rd B fp w (.sl t n sz cs) v):cs.length=n*sz:=by
 cases h with|sl us d g c f p e q s=>exact c
theorem Ll (t:Bool) (sz:Nat):Rd B fp w (.sl t 0 sz []) (.slice none 0 0):=
 .sl [] (At _) Ab Ab rfl (fun _=>rfl) (fun u c=>by simp at c) (fun i d u e=>by simp at e) (fun i u c=>by simp at c)
theorem RA.asSl {B:Nat} {fp:Nat→Nat→Prop} {w:World} {bm:BM} {gt:Nat→Value} {sz n:Nat} {cs:List D} {u:AV} {v:Value} (h:RA B fp w bm gt u v) (c:u.asSl sz=some (n,cs)):Rd B fp w (.sl false n sz cs) v:=by
 unfold AV.asSl at c
 split at c
 ·rename_i t n' s g
  cases f:Nat.beq s sz with
  |false=>rw[f] at c;cases c
  |true=>
   rw[f] at c
   simp only[cond_true,A7,Prod.mk.injEq] at c
   obtain⟨rfl,rfl⟩:=c
   obtain rfl:=Aw f
   cases h with|d h=>exact h.untag
 ·rename_i k n' s e g
  cases f:Nat.beq s sz with
  |false=>rw[f] at c;cases c
  |true=>
   rw[f] at c
   simp only[cond_true,A7,Prod.mk.injEq] at c
   obtain⟨rfl,rfl⟩:=c
   obtain rfl:=Aw f
   cases h with|own h=>exact h.untag
 ·cases c
  rw[h.val]
  exact Ll false sz
 ·cases c
theorem fJ {g c:Nat} {e:TypeId} {cs:List D} (M:B≤g) (p:w.heap[g]?=some (.cells cur e (0,0))) (A:n≤c) (I:c≤maxLen) (J:cur.size=c*sz) (K:cs.length=n*sz)
 (F:∀o,o<n*sz→fp g o) (O:∀(i:Nat) d v,cs[i]?=some d→cur[i]?=some v→Rd B fp w d v) (E:∀(i:Nat) v,i<n*sz→cur[i]?=some v→v.oneCell'=true):Rd B fp w (.sl true n sz cs) (.slice (some ⟨g,0,none⟩) n c):=by
 have H:n*sz≤c*sz:=Ce _ A
 refine .sl (cur.toList.take (n*sz)) A I K (by grind) (fun h=>by cases h) (fun u f=> ?_) (fun i d u N f=> ?_) fun i u f=> ?_
 ·obtain⟨i,L,rfl⟩:=Df f
  have q:i<n*sz:=by simp only[Ec] at L;omega
  refine E i _ q ?_
  grind
 ·grind
 ·rw[Bx] at f
  split at f
  ·rename_i s
   exact⟨g,0,rfl,by rw[A0];exact F i s,fun _=>M,by rw[A0,cell_of_row w g i cur e (0,0) p];simpa using f⟩
  ·cases f
theorem GG.append (h:GG C bm gt fp σ a w) {st ty e:TypeId} {d:TypeDesc} {vx:Value} {cs:List D}
 (hk:lk k σ.tk=some (n,sz,e)) (hcs:Rd C.W.heap.size fp w (.sl true n sz cs) (gt k)) (hx:Rd C.W.heap.size fp w (.sl tg m sz ds) vx) (hT:P.underlying st=some (.slice e)) (hE:TyOk P e d z sz by') (hz:z.cells.size=sz) (hpos:0<sz)
 (h63:n+m≤1000000000) (hby:by'≤1000):
 ∃v' w' N M,(Builtin.append_ #[st,st] ty #[gt k,vx]).run P w= .ok v' w'∧GG C bm N M ⟨shT k σ.tm,shB k σ.bx,(k,n+m,sz,e)::σ.tk⟩ a w'∧RA C.W.heap.size M w' bm N (.own k (n+m) sz e (cs++ds)) v':=by
 obtain⟨i,hi,T,F,Y⟩:=hE.inf
 obtain⟨xs,c⟩:=(h.tk k n sz e hk).own
 have E:(n+m)*by'≤140737488355328:=Bi (Nat.mul_le_mul h63 hby) Aa
 have hmax:n+m≤maxLen:=by unfold maxLen;omega
 cases hx with
 |@sl _ _ _ _ sa W us s1 s2 s3 s4 s5 s6 s7 s8=>
 have fin:∀(v':Value) (w':World),(Builtin.append_ #[st,st] ty #[gt k,.slice sa m W]).run P w= .ok v' w'→w.heap.size≤w'.heap.size→Below C.W.heap.size w w'→(∀j,j<w.heap.size→(gt k).ownBlock≠some j→w'.heap[j]?=w.heap[j]?)→(∀g o,(gt k).ownBlock=some g→o<n*sz→w'.cell? ⟨g,o,none⟩=w.cell? ⟨g,o,none⟩)→
  w'.ownsRow C.W.heap.size e sz v' (n+m) (xs++us)→(∀g,v'.ownBlock=some g→((gt k).ownBlock=some g)∨w.heap.size≤g)→
  ∃v' w' N M,(Builtin.append_ #[st,st] ty #[gt k,.slice sa m W]).run P w= .ok v' w'∧GG C bm N M ⟨shT k σ.tm,shB k σ.bx,(k,n+m,sz,e)::σ.tk⟩ a w'∧RA C.W.heap.size M w' bm N (.own k (n+m) sz e (cs++ds)) v':=by
  intro v' w' hrun hs hbel V hcl ho hv
  have hmul:n*sz≤(n+m)*sz:=Ce _ Aa
  have hG:=h.retok (k:=k) (n':=n+m) (v':=v') hk hs (h.bel.trans hbel) V hcl ⟨_,ho⟩ (fun g L=>(hv g L).imp (fun x=>⟨x,hmul⟩) id)
  refine⟨v',w',_,_,hrun,hG,?_⟩
  have hup:Nh gt k v' k=v':=Gk _ _ _
  conv=>rhs;rw[←hup]
  refine .own ?_
  rw[hup]
  have hfc:∀b o,fp b o→w'.cell? ⟨b,o,none⟩=w.cell? ⟨b,o,none⟩:=fun b o hf=>by
   by_cases hb:(gt k).ownBlock=some b
   ·refine hcl b o hb ?_
    rcases Nat.lt_or_ge o (n*sz) with h1|h1
    ·exact h1
    ·exact Bg hf ((h.tk k n sz e hk).tail b hb o h1)
   ·exact World.cell?_of_block (V b (h.fpb b o hf).2 hb)
  have keep:∀{d v},Rd C.W.heap.size fp w d v→Rd C.W.heap.size (fun b o=>fp b o∨(v'.ownBlock=some b∧o<(n+m)*sz)) w' d v:=fun hr=>hr.keep (At _) (fun _ _ x=> .inl x) hfc
  have hold:∀(j:Nat) d u,cs[j]?=some d→xs[j]?=some u→Rd C.W.heap.size fp w d u∧u.oneCell'=true:=by
   intro j d u hd hu
   rcases c.2 with⟨s,h0⟩|⟨g,A,cur,I,e2,R,e4,e5,e6,e7⟩
   ·have:xs.length=0:=by rw[c.1,h0,Nat.zero_mul]
    grind
   ·rw[I] at hcs
    cases hcs with
    |sl vs c1 c2 c3 c4 c5 c6 c7 c8=>
     have hlt:j<vs.length:=by rw[c4];exact(Ew.1 hd).1
     have hvj:=Ev hlt
     obtain⟨b,o,q1,_,_,q4⟩:=c8 j _ hvj
     simp only[A7,Addr.mk.injEq,and_true] at q1
     obtain⟨rfl,rfl⟩:=q1
     have hcj:=c.cells (g:=g) (by rw[I];rfl) j u hu
     grind [add_lit,List.getElem_mem]
  have X:cs.length=n*sz:=hcs.len
  have hxl:xs.length=cs.length:=by rw[c.1,X]
  have hall:∀(j:Nat) d u,(cs++ds)[j]?=some d→(xs++us)[j]?=some u→Rd C.W.heap.size fp w d u∧u.oneCell'=true:=by
   intro j d u hd hu
   by_cases hj:j<cs.length
   ·grind
   ·grind
  have U:(cs++ds).length=(n+m)*sz:=by rw[En,X,s3,C7]
  rcases ho.2 with⟨s,h0⟩|⟨g,A,cur,I,e2,R,e4,e5,e6,e7⟩
  ·rw[s,h0]
   have:cs++ds=[]:=Bn (by rw[U,h0,Nat.zero_mul])
   rw[this]
   exact Ll _ _
  ·subst I
   have hget:∀(j:Nat) u,j<(n+m)*sz→cur[j]?=some u→(xs++us)[j]?=some u:=fun j u hj hu=>by
    grind
   refine fJ e2 R e4 e5 e6 U (fun o ho=> .inr ⟨rfl,ho⟩) (fun j d u hd hu=> ?_) (fun j u hj hu=> ?_)
   all_goals grind
 have hbs:C.W.heap.size≤w.heap.size:=h.bel.size
 cases sa with
 |none=>
  have hc0:=s5 rfl
  have hm:m=0:=Aa
  subst hm;subst hc0
  have hus:us=[]:=Bn (by rw[s4,s3,Nat.zero_mul])
  subst hus
  exact fin (gt k) w (run_append_owned_none (P:=P) (w:=w) _ st ty e i sz hT hi (gt k) n xs c) (At _) (Bq _ _) (fun _ _ _=>rfl) (fun _ _ _ _=>rfl) (by simpa using c) (fun g L=> .inl L)
 |some Z=>
  have H:us.length=m*i.size:=by rw[s4,s3,F]
  have f:∀j u,us[j]?=some u→w.cell? (Z.add j)=some u:=by
   intro j u hu
   obtain⟨b,o',I,_,_,e4⟩:=s8 j u hu
   simp only[A7] at I
   subst I
   rw[add_lit];exact e4
  obtain⟨v1,w1,q,ho1,hg1,hnil1⟩:=run_append_own (P:=P) w C.W.heap.size st ty e i z sz by' hT hi T F Y hz hpos (gt k) n xs c Z m W us (by rw[H,F]) f s6 hmax E hbs
  have hbel1:Below C.W.heap.size w w1:=((Bq C.W.heap.size w).grown hg1 hbs (fun j e=>(c.lt j e).1))
  refine fin v1 w1 q hg1.size hbel1 (fun j hj hne=>hg1.block j hj (fun e=>hne e.symm)) (fun g o L hlt=> ?_) ho1 (fun g L=> ?_)
  ·rcases c.2 with⟨s,h0⟩|⟨Q,A,cur,I,e2,R,e4,e5,e6,e7⟩
   ·rw[s] at L;cases L
   ·rw[I] at L
    simp only[Value.ownBlock,A7] at L
    subst L
    by_cases p:n+m≤A
    ·have O:n*i.size+us.length≤cur.size:=by rw[H,F,e6,←C7];exact Ce _ p
     have K:=run_append_room (P:=P) w st ty e i hT hi Q n A cur R Z m W us H f s6 p O
     rw[I,K] at q
     simp only[Result.ok.injEq] at q
     rw[←q.2,cell_setRow_same w Q o cur _ e (0,0) R,cell_of_row w Q o cur e (0,0) R,F]
     have h1:o<(cur.toList.take (n*sz)).length:=by
      rw[Ec,Bm,e6]
      exact Ci hlt (Nat.le_min.2 ⟨At _,Ce _ e4⟩)
     grind
    ·have J:∀j u,xs[j]?=some u→w.cell? ((⟨Q,0,none⟩:Addr).add j)=some u:=c.cells (g:=Q) (by rw[I];rfl)
     have K:=run_append_grow (P:=P) w st ty e i z hT hi T ⟨Q,0,none⟩ n A xs (by rw[c.1,F]) J Z m W us H f Aa Aa (growslice_fits Aa (by rw[Y];exact E))
     rw[I,K] at q
     simp only[Result.ok.injEq] at q
     rw[←q.2]
     exact World.cell?_of_block (heap_alloc_old _ _ (Br.1 R).1)
  ·rcases c.2 with⟨s,h0⟩|⟨Q,A,cur,I,e2,R,e4,e5,e6,e7⟩
   ·right
    by_cases hm:m=0
    ·rw[hnil1.2 ⟨s,hm⟩] at L;cases L
    ·subst h0
     have K:=run_append_nil (P:=P) w st ty e i z hT hi T Z m W us H f Aa Aa (by grind)
     grind [Result.ok.injEq,Value.ownBlock,Option.some.injEq]
   ·by_cases p:n+m≤A
    ·left
     have O:n*i.size+us.length≤cur.size:=by rw[H,F,e6,←C7];exact Ce _ p
     have K:=run_append_room (P:=P) w st ty e i hT hi Q n A cur R Z m W us H f s6 p O
     rw[I,K] at q
     simp only[Result.ok.injEq] at q
     rw[←q.1] at L
     rw[I]
     exact L
    ·right
     have J:∀j u,xs[j]?=some u→w.cell? ((⟨Q,0,none⟩:Addr).add j)=some u:=c.cells (g:=Q) (by rw[I];rfl)
     have K:=run_append_grow (P:=P) w st ty e i z hT hi T ⟨Q,0,none⟩ n A xs (by rw[c.1,F]) J Z m W us H f Aa Aa (growslice_fits Aa (by rw[Y];exact E))
     grind [Result.ok.injEq,Value.ownBlock,Option.some.injEq]
section
variable {P:Program} {C:Cx} {o:Oper} {σ:AS} {t:Nat}
theorem Ym {st e:TypeId} {s:Operand} {cs:List D} {d:TypeDesc} {ux:AV} (J:o.op= .call {callee:= .builtin .append,args:=#[s,x],argTypes:=#[st,st]}) (N:o.dst=some t) (L:t<C.N) (Y:σ.eval s=some (.own k n sz e cs)) (I:lk k σ.tk=some (n,sz,e))
 (M:σ.eval x=some ux) (h:ux.asSl sz=some (m,ds)) (R:P.underlying st=some (.slice e)) (H:TyOk P e d z sz by') (W:z.cells.size=sz) (f:0<sz) (p:n+m≤1000000000) (q:by'≤1000):
 Fp P C o σ ⟨(t,.own k (n+m) sz e (cs++ds))::shT k σ.tm,shB k σ.bx,(k,n+m,sz,e)::σ.tk⟩:=by
 rintro a w ⟨bm,gt,fp,A⟩ K Q E
 have g:=A.eval Y
 have V:=(A.eval M).asSl h
 generalize O:a.eval s=v at g
 cases g with
 |own g=>
  obtain⟨v',w',X,F,c,T,U⟩:=A.append (ty:=o.type) I g V R H W f p q
  unfold Oper.wp execOp
  simp only[J,resolve,invoke,builtin,Au,Bs,A6,List.map_toArray,Bc,List.map_nil,O,c]
  rw[Oper.upon_value,N]
  exact E _ _ ⟨_,_,_,T.put (t:=t) L U⟩
theorem Ru {st e:TypeId} {s:Operand} {d:TypeDesc} {ux:AV} (W:o.op= .call {callee:= .builtin .append,args:=#[s,x],argTypes:=#[st,st]}) (hd:o.dst=some t) (Y:t<C.N) (hs:σ.eval s=some (.d (.v (.slice none 0 0)))) (E:σ.clean κ=true)
 (hx:σ.eval x=some ux) (F:ux.asSl sz=some (m,ds)) (hT:P.underlying st=some (.slice e)) (V:TyOk P e d z sz by') (hz:z.cells.size=sz) (q:0<sz) (Z:m≤1000000000) (H:by'≤1000):
 Fp P C o σ ⟨(t,.own κ m sz e ds)::σ.tm,σ.bx,(κ,m,sz,e)::σ.tk⟩:=by
 rintro a w ⟨bm,gt,fp,L⟩ K Q T
 have hv:=(L.eval hs).val
 have h2:=(L.eval hx).asSl F
 have hA:=L.adopt E sz e
 obtain⟨v',w',gt',U,p,O,R⟩:=hA.append (st:=st) (ty:=o.type) (cs:=[]) (k:=κ) (F1 _ _ _) (by rw[Gk];exact Ll _ _) h2 hT V hz q Aa H
 rw[Gk] at p
 unfold Oper.wp execOp
 simp only[W,resolve,invoke,builtin,Au,Bs,A6,List.map_toArray,Bc,List.map_nil,hv,p]
 rw[Oper.upon_value,hd]
 simp only[AS.clean,Et] at E
 simp only[Te E.1,Qe E.2,Ap,A0] at O R
 obtain⟨bm',J,M,g⟩:G C ⟨(t,.own κ m sz e ds)::σ.tm,σ.bx,(κ,m,sz,e)::(κ,0,sz,e)::σ.tk⟩ (a.put (some t) v') w':=⟨_,_,_,O.put (t:=t) Y R⟩
 refine T _ _ ⟨bm',J,M,{g with tk:=fun j n' s' X h=> ?_,tki:=fun j A x N h I=> ?_,tkb:=fun j A x c h=> ?_,ztk:=fun j x h=> ?_}⟩
 all_goals
  have f:∀j (x:Nat×Nat×TypeId),lk j ((κ,m,sz,e)::σ.tk)=some x→lk j ((κ,m,sz,e)::(κ,0,sz,e)::σ.tk)=some x:=fun j x h=>by
   grind [F1,Gm]
 ·exact g.ztk j x (f j x h)
 ·exact g.tk j n' s' X (f j _ h)
 ·exact g.tki j A x N (f j x h) (f A N I)
 ·exact g.tkb j A x c (f j x h)
end
end Go.Proofs.YtbedjionhmaafaaGreatDoor
namespace Go.Proofs.YtbedjionhmaafaaGreatDoor
open Go.RowKit
variable {fp:Nat→Nat→Prop} {w:World} {n sz lo:Nat} {cs:List D} {l:List UInt8} {x:Operand} {tg:Bool} {ux:AV}
def AV.asSlT (sz:Nat):AV→Option (Bool×Nat×List D)
 | .d (.sl t n s cs)=>bif Nat.beq s sz then some (t,n,cs) else none
 | .own _ n s _ cs=>bif Nat.beq s sz then some (true,n,cs) else none
 | .d (.v (.slice none 0 0))=>some (true,0,[])
 |_=>none
theorem RA.asSlT {B:Nat} {fp:Nat→Nat→Prop} {w:World} {bm:BM} {gt:Nat→Value} {sz n:Nat} {t:Bool} {cs:List D} {u:AV} {v:Value} (h:RA B fp w bm gt u v) (c:u.asSlT sz=some (t,n,cs)):Rd B fp w (.sl t n sz cs) v:=by
 unfold AV.asSlT at c
 split at c
 ·rename_i p n' s g
  cases f:Nat.beq s sz with
  |false=>rw[f] at c;cases c
  |true=>
   rw[f] at c
   simp only[cond_true,A7,Prod.mk.injEq] at c
   obtain⟨rfl,rfl,rfl⟩:=c
   obtain rfl:=Aw f
   cases h with|d h=>exact h
 ·rename_i k n' s e g
  cases f:Nat.beq s sz with
  |false=>rw[f] at c;cases c
  |true=>
   rw[f] at c
   simp only[cond_true,A7,Prod.mk.injEq] at c
   obtain⟨rfl,rfl,rfl⟩:=c
   obtain rfl:=Aw f
   cases h with|own h=>exact h
 ·cases c
  rw[h.val]
  exact Ll _ sz
 ·cases c
theorem Rd.shape {B:Nat} {t:Bool} {v:Value} (h:Rd B fp w (.sl t n sz cs) v):∃a c,v= .slice a n c∧n≤c∧c≤maxLen∧(a=none→c=0)∧∃us:List Value,us.length=cs.length∧(∀u∈us,u.oneCell'=true)∧(∀(i:Nat) d u,cs[i]?=some d→us[i]?=some u→Rd B fp w d u)∧
 (∀(i:Nat) u,us[i]?=some u→∃b o,a=some ⟨b,o,none⟩∧fp b (o+i)∧(t=true→B≤b)∧w.cell? ⟨b,o+i,none⟩=some u):=by
 cases h with|sl us e q E f s p A g=>exact⟨_,_,rfl,e,q,s,us,f,p,A,g⟩
def Fj (l:List UInt8):List D:=l.map fun y=> .v (.int .u8 y.toNat)
theorem Mq (l:List UInt8):(Fj l).length=l.length:=by simp[Fj]
theorem Q4 (l:List UInt8) (i:Nat):(Fj l)[i]?=l[i]?.map fun y=>D.v (.int .u8 y.toNat):=by simp[Fj]
theorem Uh (l m:List UInt8):Fj (l++m)=Fj l++Fj m:=by simp[Fj]
theorem mI (l:List UInt8) (n:Nat):Fj (l.take n)=(Fj l).take n:=by simp[Fj,List.map_take]
theorem mJ (l:List UInt8) (n:Nat):Fj (l.drop n)=(Fj l).drop n:=by simp[Fj,List.map_drop]
theorem D6 (l:List UInt8):Ef (Fj l)=Fj l:=by
 rw[I1];simp[Fj,D.un]
def By (t:Bool) (l:List UInt8):D:= .sl t l.length 1 (Fj l)
theorem D7 (t:Bool) (l:List UInt8):(By t l).un=By false l:=by
 simp only[By,D.un,D6]
theorem Rd.bytes {B:Nat} {t:Bool} {v:Value} (h:Rd B fp w (By t l) v):Je (fun b=>t=true→B≤b) w v l:=by
 obtain⟨a,c,rfl,p,I,H,us,s,L,J,E⟩:=h.shape
 refine⟨a,c,rfl,p,I,⟨by simp[Lib.byteCells],H⟩,fun i u f=> ?_⟩
 rw[M7,A8] at f
 obtain⟨y,g,rfl⟩:=f
 have e:i<us.length:=by rw[s,Mq];exact(Ew.1 g).1
 obtain⟨b,o,F,K,q,A⟩:=E i _ (Ev e)
 refine⟨b,o,F,q,?_⟩
 have:=J i (.v (.int .u8 y.toNat)) us[i] (by rw[Q4,g];rfl) (Ev e)
 cases d:us[i] with
 |int k n=>
  rw[d] at this
  cases this
  rw[A,d]
 |_=>rw[d] at this;cases this
def Bnd (σ:AS) (x:Option Operand) (dflt lo:Nat):Prop:=
 match x with
 |none=>lo=dflt
 |some x=>∃k z,σ.eval x=some (.d (.v (.int k z)))∧z=(lo:Int)
section
variable {P:Program} {C:Cx} {o:Oper} {σ:AS} {t:Nat}
theorem Zg {bm:BM} {gt:Nat→Value} {a:Act} (e:GG C bm gt fp σ a w) {c:Nat} (h:Bnd σ (some x) c lo):∃k,a.eval x= .int k lo:=by
 obtain⟨k,z,d,rfl⟩:=h
 exact⟨k,(e.eval d).val⟩
theorem Lm (k:IntKind) (lo y:Nat) (c:BoundsCode) (h:lo≤y) (w:World):(Instr.sliceBound (.int k lo) y c).run P w= .ok lo w:=by
 simp[Instr.sliceBound,asIntOf,go_sem,h]
def BV (x:Option Value) (dflt lo:Nat):Prop:=
 match x with
 |none=>lo=dflt
 |some v=>∃k,v= .int k lo
theorem sR {st e:TypeId} (J:P.underlying st=some (.slice e)) (K:∀w,(sizeOf e).run P w= .ok sz w) (w:World) (a:Option Addr) (n c lo s f:Nat) (F:lo≤s) (E:s≤f) (I:f≤c) (g h p:Option Value)
 (d:BV g 0 lo) (q:BV h n s) (H:h=none→p=none) (A:BV p c f):
 (Instr.sliceAt st (.slice a n c) g h p).run P w= .ok (.slice (if f=lo then a else a.map (·.add (lo*sz))) (s-lo) (f-lo)) w:=by
 have M:(Instr.sliceBounds true n c g h p).run P w= .ok (lo,s,f) w:=by
  unfold Instr.sliceBounds
  unfold BV at d q A
  cases p with
  |none=>
   simp only at A;subst A
   cases h with
   |none=>
    simp only at q;subst q
    cases g with
    |none=>simp only at d;subst d;rfl
    |some v=>obtain⟨k,rfl⟩:=d;simp[Result.andThen,Lm,F]
   |some v=>
    obtain⟨k,rfl⟩:=q
    cases g with
    |none=>simp only at d;subst d;simp[Result.andThen,Lm,E]
    |some v=>obtain⟨k',rfl⟩:=d;simp[Au,Result.andThen,Lm,F,E]
  |some v=>
   obtain⟨L,rfl⟩:=A
   cases h with
   |none=>exact Bg (H rfl) Ab
   |some v=>
    obtain⟨k,rfl⟩:=q
    cases g with
    |none=>simp only at d;subst d;simp[Au,Result.andThen,Lm,E,I]
    |some v=>obtain⟨k',rfl⟩:=d;simp[Au,Result.andThen,Lm,F,E,I]
 unfold Instr.sliceAt
 rw[Au,Bf J]
 simp only[Result.andThen]
 unfold Instr.slice
 rw[Au,Bf J]
 simp_all
theorem sS {st e:TypeId} {by' g H:Nat} {R N A:Option Operand} {E:List D} {d:TypeDesc} {z:Value} (ho:o.op= .slice st x R N A) (hd:o.dst=some t) (Z:t<C.N) (hT:P.underlying st=some (.slice e)) (hE:TyOk P e d z sz by')
 (hx:σ.eval x=some ux) (O:ux.asSlT sz=some (tg,n,cs)) (V:Bnd σ R 0 lo) (W:Bnd σ N n g) (hm:match A with|none=>H=n|some x=>∃k z,σ.eval x=some (.d (.v (.int k z)))∧z=(H:Int)) (Y:N=none→A=none) (X:lo≤g) (h2:g≤H) (h3:H≤n) (I:(cs.drop (lo*sz)).take ((g-lo)*sz)=E):
 Fp P C o σ (σ.put t (.d (.sl tg (g-lo) sz E))):=
 E1 hd Z fun a w bm gt fp M=>by
  have h:=(M.eval hx).asSlT O
  have U:=h.len
  obtain⟨Q,c,hv,k1,k2,k5,us,k4,k6,k7,k8⟩:=h.shape
  obtain⟨f,L,F,J⟩:∃f,g≤f∧f≤c∧BV (A.map a.eval) c f:=by
   cases A with
   |none=>exact⟨c,Aa,At _,rfl⟩
   |some x=>
    obtain⟨k,z,e1,rfl⟩:=hm
    exact⟨H,h2,Aa,k,(M.eval e1).val⟩
  refine⟨_,?_,.d (.sl ((us.drop (lo*sz)).take ((g-lo)*sz)) (c:=f-lo) (a:=if f=lo then Q else Q.map (·.add (lo*sz))) Aa Aa ?_ ?_ ?_ (fun u hu=>k6 u (List.mem_of_mem_drop (List.mem_of_mem_take hu))) (fun i p q hp s=> ?_) fun i q s=> ?_)⟩
  ·simp only[execOp,ho,hv]
   rw[Au,sR hT hE.size w Q n c lo g f X L F _ _ _ ?_ ?_ ?_ J]
   ·rfl
   ·cases R with
    |none=>exact V
    |some x=>exact Zg M V
   ·cases N with
    |none=>exact W
    |some x=>exact Zg M W
   simp_all
  ·rw[←I,Ec,Eh,U]
   have:g*sz≤n*sz:=Ce _ Aa
   grind [Nat.sub_mul,Nat.min_eq_left,Nat.mul_le_mul_right]
  ·rw[←I];simp[k4]
  ·grind [Option.map_eq_none_iff]
  ·grind
  ·rw[Bx] at s
   split at s
   ·rename_i K
    rw[B2] at s
    obtain⟨b,p,rfl,e2,e3,e4⟩:=k8 _ q s
    have T:¬f=lo:=by
     intro e
     have:g-lo=0:=Aa
     rw[this,Nat.zero_mul] at K
     exact Bg K (Nat.not_lt_zero _)
    refine⟨b,p+lo*sz,?_,by rw[C8];exact e2,e3,by rw[C8];exact e4⟩
    rw[Ai T,Ch,add_lit]
   ·cases s
theorem mK {st:TypeId} {d:Nat} {s h:Option Operand} {q:List UInt8} (L:o.op= .slice st x s h none) (O:o.dst=some t) (M:t<C.N) (J:P.underlying st=some .string)
 (N:σ.eval x=some (.d (.v (.string ⟨l.toArray⟩)))) (I:Bnd σ s 0 lo) (H:Bnd σ h l.length d) (F:lo≤d) (K:d≤l.length) (p:(l.drop lo).take (d-lo)=q):
 Fp P C o σ (σ.put t (.d (.v (.string ⟨q.toArray⟩)))):=
 E1 O M fun a w bm gt fp E=>by
  have Q:=(E.eval N).val
  refine⟨_,?_,.d (.v _)⟩
  have A:(⟨l.toArray⟩:ByteArray).size=l.length:=by show l.toArray.size=_;simp
  have T:∀f g:Option Value,(match f with|none=>lo=0|some v=>∃k,v= .int k lo)→(match g with|none=>d=l.length|some v=>∃k,v= .int k d)→(Instr.sliceBounds false l.length l.length f g none).run P w= .ok (lo,d,l.length) w:=by
   intro f g c e
   unfold Instr.sliceBounds
   cases g with
   |none=>
    simp only at e;subst e
    cases f with
    |none=>simp only at c;subst c;rfl
    |some v=>obtain⟨k,rfl⟩:=c;simp[Result.andThen,Lm,F]
   |some v=>
    obtain⟨k,rfl⟩:=e
    cases f with
    |none=>simp only at c;subst c;simp[Result.andThen,Lm,K]
    |some v=>obtain⟨k',rfl⟩:=c;simp[Au,Result.andThen,Lm,F,K]
  have R:(⟨l.toArray⟩:ByteArray).extract lo d=⟨q.toArray⟩:=by
   rw[←p]
   apply ByteArray.ext
   simp[ByteArray.data_extract,List.extract_eq_take_drop]
  simp only[execOp,L,Q]
  unfold Instr.sliceAt
  rw[Au,Au,Bf J]
  simp only[Result.andThen]
  unfold Instr.slice
  rw[Au,Bf J]
  simp only[Result.andThen,Dy,Option.isSome_none,Ck,if_false,A]
  rw[Au,T _ _ ?_ ?_]
  ·simp only[Result.andThen,R];rfl
  ·cases s with
   |none=>exact I
   |some x=>exact Zg E I
  ·cases h with
   |none=>exact H
   |some x=>exact Zg E H
theorem JM {st e:TypeId} {by' i:Nat} {y:Operand} {k:IntKind} {iv:Int} {cs':List D} {d:TypeDesc} {z:Value} (ho:o.op= .indexAddr st x y) (hd:o.dst=some t) (ht:t<C.N) (hT:P.underlying st=some (.slice e)) (hE:TyOk P e d z sz by')
 (hx:σ.eval x=some ux) (hux:ux.asSlT sz=some (tg,n,cs)) (hy:σ.eval y=some (.d (.v (.int k iv)))) (hi:iv=(i:Int)) (hlt:i<n) (hpos:0<sz) (hcs:(cs.drop (i*sz)).take sz=cs'):
 Fp P C o σ (σ.put t (.d (.cp tg cs'))):=
 E1 hd ht fun a w bm gt fp hg=>by
  have h:=(hg.eval hx).asSlT hux
  have hcl:=h.len
  obtain⟨ad,c,hv,k1,k2,k5,us,k4,k6,k7,k8⟩:=h.shape
  have hyv:=(hg.eval hy).val
  subst hi
  cases ad with
  |none=>have:=k5 rfl;omega
  |some ad=>
   obtain⟨b,p,sp⟩:=ad
   by_cases hs:sp=none
   ·subst hs
    refine⟨.pointer (some ⟨b,p+i*sz,none⟩),?_,.d (.cp ((us.drop (i*sz)).take sz) (by rw[←hcs];simp[k4]) (fun j q r hq hr=> ?_) fun j r hr=> ?_)⟩
    ·simp only[execOp,ho,hv,hyv,Instr.indexAt,asIntOf]
     simp[go_sem,Bf hT,hlt,hE.size,add_lit]
    all_goals grind
   ·have h0:0<us.length:=by rw[k4,hcl];exact Nat.mul_pos Aa hpos
    obtain⟨b',p',e1,_⟩:=k8 0 us[0] (Ev h0)
    grind
theorem DM {st:TypeId} {i:Nat} {y:Operand} {k:IntKind} {iv:Int} {b:UInt8} (ho:o.op= .index st x y) (hd:o.dst=some t) (ht:t<C.N) (hT:P.underlying st=some .string)
 (hx:σ.eval x=some (.d (.v (.string ⟨l.toArray⟩)))) (hy:σ.eval y=some (.d (.v (.int k iv)))) (hi:iv=(i:Int)) (hb:l[i]?=some b):Fp P C o σ (σ.put t (.d (.v (.int .u8 b.toNat)))):=
 E1 hd ht fun a w bm gt fp hg=>by
  have hv:=(hg.eval hx).val
  have hyv:=(hg.eval hy).val
  subst hi
  refine⟨_,?_,.d (.v _)⟩
  have hlt:=(Ew.1 hb).1
  have hs:(⟨l.toArray⟩:ByteArray)[i]?=some b:=by
   have hsz:i<(⟨l.toArray⟩:ByteArray).size:=by show i<l.toArray.size;simpa using hlt
   rw[getElem?_pos _ i hsz]
   have:=(Ew.1 hb).2
   simpa[ByteArray.getElem_eq_getElem_data] using this
  simp only[execOp,ho,hv,hyv,Instr.index,asIntOf]
  simp[go_sem,Bf hT,hs]
theorem JN {st e:TypeId} (ho:o.op= .call {callee:= .builtin .len,args:=#[x],argTypes:=#[st]}) (hd:o.dst=some t) (ht:t<C.N) (hT:P.underlying st=some (.slice e)) (hx:σ.eval x=some ux) (hux:ux.asSlT sz=some (tg,n,cs)):Fp P C o σ (σ.put t (.d (.v (.int .i64 n)))):=
 E1 hd ht fun a w bm gt fp hg=>by
  obtain⟨ad,c,hv,-⟩:=((hg.eval hx).asSlT hux).shape
  refine⟨_,?_,.d (.v _)⟩
  simp only[execOp,ho,resolve,invoke,builtin,Builtin.len_,Au,Bs,A6,List.map_toArray,Bc,List.map_nil,hv]
  simp[go_sem,Bf hT,goInt]
theorem DN {st:TypeId} (ho:o.op= .call {callee:= .builtin .len,args:=#[x],argTypes:=#[st]}) (hd:o.dst=some t) (ht:t<C.N) (hT:P.underlying st=some .string) (hx:σ.eval x=some (.d (.v (.string ⟨l.toArray⟩)))):Fp P C o σ (σ.put t (.d (.v (.int .i64 l.length)))):=
 E1 hd ht fun a w bm gt fp hg=>by
  have hv:=(hg.eval hx).val
  refine⟨_,?_,.d (.v _)⟩
  have hsz:(⟨l.toArray⟩:ByteArray).size=l.length:=by show l.toArray.size=_;simp
  simp only[execOp,ho,resolve,invoke,builtin,Builtin.len_,Au,Bs,A6,List.map_toArray,Bc,List.map_nil,hv]
  simp[go_sem,Bf hT,goInt,hsz]
theorem JO {c d e:TypeId} (s:o.op= .convert c d x) (J:o.dst=some t) (A:t<C.N) (K:P.underlying c=some (.slice e)) (H:P.underlying e=some (.int .u8)) (p:P.underlying d=some .string)
 (I:σ.eval x=some ux) (f:ux.asSlT 1=some (tg,n,cs)) (q:cs=Fj l):Fp P C o σ (σ.put t (.d (.v (.string ⟨l.toArray⟩)))):=
 E1 J A fun a w bm gt fp E=>by
  subst q
  have h:=(E.eval I).asSlT f
  have g:n=l.length:=by have:=h.len;rw[Mq] at this;omega
  subst g
  have F:=(Rd.bytes (l:=l) h).string (P:=P) c d e K H p
  refine⟨_,?_,.d (.v _)⟩
  simp only[execOp,s]
  rw[Au,F]
  rfl
theorem DO {src dst:TypeId} {v:ByteArray} (ho:o.op= .convert src dst x) (hd:o.dst=some t) (ht:t<C.N) (hs:P.underlying src=some .string) (hu:P.underlying dst=some .string) (hx:σ.eval x=some (.d (.v (.string v)))):Fp P C o σ (σ.put t (.d (.v (.string v)))):=
 E1 hd ht fun a w bm gt fp hg=>by
  have hv:=(hg.eval hx).val
  refine⟨_,?_,.d (.v _)⟩
  simp only[execOp,ho,hv,convert]
  simp[go_sem,Bf hs,Bf hu]
end
end Go.Proofs.YtbedjionhmaafaaGreatDoor
