/- MA: the texts Abs Abs2 Abs3 Abs4 Abs5, one behind the other. No condition but what each lemma says. -/
import Derived.Test.YtokmjjkbginodaaGreatDoorGGd
set_option maxRecDepth 100000
set_option maxHeartbeats 16000000
namespace Go.Proofs.YtokmjjkbginodaaGreatDoor
open Go.RowKit
inductive D where
 |v (x:Value)
 |sl (t:Bool) (n sz:Nat) (cs:List D)
 |cp (t:Bool) (ds:List D)
 |fn (f:Nat) (caps:List D)
inductive Rd (B:Nat) (fp:Nat→Nat→Prop) (w:World):D→Value→Prop
 |v (x:Value):Rd B fp w (.v x) x
 |sl {t:Bool} {n sz:Nat} {cs:List D} {a:Option Addr} {c:Nat} (us:List Value) (h1:n≤c) (h2:c≤maxLen) (h3:cs.length=n*sz) (h4:us.length=cs.length) (h5:a=none→c=0)
   (h6:∀u∈us,u.oneCell'=true) (h7:∀(i:Nat) d u,cs[i]?=some d→us[i]?=some u→Rd B fp w d u)
   (h8:∀(i:Nat) u,us[i]?=some u→∃b o,a=some ⟨b,o,none⟩∧fp b (o+i)∧(t=true→B≤b)∧w.cell? ⟨b,o+i,none⟩=some u):Rd B fp w (.sl t n sz cs) (.slice a n c)
 |cp {t:Bool} {ds:List D} {b o:Nat} (us:List Value) (h4:us.length=ds.length) (h7:∀(i:Nat) d u,ds[i]?=some d→us[i]?=some u→Rd B fp w d u)
   (h8:∀(i:Nat) u,us[i]?=some u→fp b (o+i)∧(t=true→B≤b)∧w.cell? ⟨b,o+i,none⟩=some u):Rd B fp w (.cp t ds) (.pointer (some ⟨b,o,none⟩))
 |fn {f:Nat} {caps:List D} (us:List Value) (h4:us.length=caps.length) (h7:∀(i:Nat) d u,caps[i]?=some d→us[i]?=some u→Rd B fp w d u):Rd B fp w (.fn f caps) (.func (.func f) #[] us.toArray)
theorem Rd.keep {B B':Nat} {fp fp':Nat→Nat→Prop} {w w':World} (hB:B'≤B) (hf:∀b o,fp b o→fp' b o) (hw:∀b o,fp b o→w'.cell? ⟨b,o,none⟩=w.cell? ⟨b,o,none⟩) {d:D} {v:Value} (h:Rd B fp w d v):Rd B' fp' w' d v:=by
 induction h with
 |v x=>exact .v x
 |sl us h1 h2 h3 h4 h5 h6 h7 h8 ih=>
  refine .sl us h1 h2 h3 h4 h5 h6 ih fun i u hu=> ?_
  obtain⟨b,o,e1,e2,e3,e4⟩:=h8 i u hu
  exact⟨b,o,e1,hf _ _ e2,fun ht=>Nat.le_trans hB (e3 ht),(hw _ _ e2).trans e4⟩
 |cp us h4 h7 h8 ih=>
  refine .cp us h4 ih fun i u hu=> ?_
  obtain⟨e2,e3,e4⟩:=h8 i u hu
  exact⟨hf _ _ e2,fun ht=>Nat.le_trans hB (e3 ht),(hw _ _ e2).trans e4⟩
 |fn us h4 h7 ih=>exact .fn us h4 ih
mutual
def D.un:D→D
 | .v x=> .v x
 | .sl _ n sz cs=> .sl false n sz (D.uns cs)
 | .cp _ ds=> .cp false (D.uns ds)
 | .fn f caps=> .fn f (D.uns caps)
def D.uns:List D→List D
 |[]=>[]
 |d::r=>d.un::D.uns r
end
theorem D.uns_eq (l:List D):D.uns l=l.map D.un:=by
 induction l with
 |nil=>rfl
 |cons d r ih=>rw[D.uns,ih];rfl
theorem Rd.un {B B':Nat} {fp:Nat→Nat→Prop} {w:World} {d:D} {v:Value} (h:Rd B fp w d v):Rd B' fp w d.un v:=by
 induction h with
 |v x=>exact .v x
 |sl us h1 h2 h3 h4 h5 h6 h7 h8 ih=>
  refine .sl us h1 h2 (by rw[D.uns_eq,List.length_map];exact h3) (by rw[D.uns_eq,List.length_map];exact h4) h5 h6 (fun i d u hd hu=> ?_) fun i u hu=> ?_
  ·rw[D.uns_eq,List.getElem?_map,Option.map_eq_some_iff] at hd
   obtain⟨d0,hd0,rfl⟩:=hd
   exact ih i d0 u hd0 hu
  ·obtain⟨b,o,e1,e2,e3,e4⟩:=h8 i u hu
   exact⟨b,o,e1,e2,fun ht=>by(cases ht),e4⟩
 |cp us h4 h7 h8 ih=>
  refine .cp us (by rw[D.uns_eq,List.length_map];exact h4) (fun i d u hd hu=> ?_) fun i u hu=> ?_
  ·rw[D.uns_eq,List.getElem?_map,Option.map_eq_some_iff] at hd
   obtain⟨d0,hd0,rfl⟩:=hd
   exact ih i d0 u hd0 hu
  ·obtain⟨e2,e3,e4⟩:=h8 i u hu
   exact⟨e2,fun ht=>by(cases ht),e4⟩
 |fn us h4 h7 ih=>
  refine .fn us (by rw[D.uns_eq,List.length_map];exact h4) (fun i d u hd hu=> ?_)
  rw[D.uns_eq,List.getElem?_map,Option.map_eq_some_iff] at hd
  obtain⟨d0,hd0,rfl⟩:=hd
  exact ih i d0 u hd0 hu
structure BM where
 m:Nat→Nat
 z:Nat→Nat→Prop
instance:CoeFun BM (fun _=>Nat→Nat):=⟨BM.m⟩
def NC (w w':World):Prop:=∀(b:Nat) (ob:Obj),w.heap[b]?=some ob→(∀cs e f,ob≠Obj.cells cs e f)→w'.heap[b]?=some ob
theorem NC.refl (w:World):NC w w:=fun _ _ h _=>h
theorem NC.trans {w1 w2 w3:World} (h:NC w1 w2) (h':NC w2 w3):NC w1 w3:=fun b ob h1 h2=>h' b ob (h b ob h1 h2) h2
theorem NC.below {w w':World} (h:Below w.heap.size w w'):NC w w':=fun b _ h1 _=>(h.block b (Array.getElem?_eq_some_iff.1 h1).1).trans h1
theorem NC.one {w w':World} {g:Nat} {cs:Array Value} {e:TypeId} {f:Nat×Nat} (hg:w.heap[g]?=some (.cells cs e f)) (h:∀j,j<w.heap.size→j≠g→w'.heap[j]?=w.heap[j]?):NC w w':=fun b ob h1 h2=>by
 by_cases hb:b=g
 ·subst hb;rw[hg] at h1;cases h1;exact absurd rfl (h2 _ _ _)
 ·exact(h b (Array.getElem?_eq_some_iff.1 h1).1 hb).trans h1
inductive AV where
 |d (x:D)
 |ptr (k off:Nat)
 |own (k n sz:Nat) (e:TypeId) (cs:List D)
 |agg (cs:List AV)
 |tup (xs:List AV)
 |sem (φ:(Nat→Nat→Prop)→World→Value→Prop)
 |cl (f:Nat) (fs cs:List AV)
 |pk (k off n sz:Nat)
inductive RA (B:Nat) (fp:Nat→Nat→Prop) (w:World) (bm:BM) (gt:Nat→Value):AV→Value→Prop
 |d {x:D} {v:Value} (h:Rd B fp w x v):RA B fp w bm gt (.d x) v
 |ptr {k off:Nat}:RA B fp w bm gt (.ptr k off) (.pointer (some ⟨bm k,off,none⟩))
 |own {k n sz:Nat} {e:TypeId} {cs:List D} (h:Rd B fp w (.sl true n sz cs) (gt k)):RA B fp w bm gt (.own k n sz e cs) (gt k)
 |agg {cs:List AV} (vs:List Value) (h4:vs.length=cs.length) (h7:∀(i:Nat) u v,cs[i]?=some u→vs[i]?=some v→RA B fp w bm gt u v):RA B fp w bm gt (.agg cs) (.agg vs.toArray)
 |tup {cs:List AV} (vs:List Value) (h4:vs.length=cs.length) (h7:∀(i:Nat) u v,cs[i]?=some u→vs[i]?=some v→RA B fp w bm gt u v):RA B fp w bm gt (.tup cs) (.tuple vs.toArray)
 |sem {φ:(Nat→Nat→Prop)→World→Value→Prop} {v:Value} (h1:v.oneCell'=true) (h:∀z' w',(∀b o,bm.z b o→z' b o)→(∀b o,bm.z b o→w'.cell? ⟨b,o,none⟩=w.cell? ⟨b,o,none⟩)→NC w w'→φ z' w' v):RA B fp w bm gt (.sem φ) v
 |cl {f:Nat} {fs cs:List AV} (us vs:List Value) (h3:us.length=fs.length) (h4:vs.length=cs.length) (h6:∀(i:Nat) u v,fs[i]?=some u→us[i]?=some v→RA B fp w bm gt u v) (h7:∀(i:Nat) u v,cs[i]?=some u→vs[i]?=some v→RA B fp w bm gt u v):RA B fp w bm gt (.cl f fs cs) (.func (.func f) us.toArray vs.toArray)
 |pk {k off n sz c:Nat} (h1:n≤c) (h2:c≤maxLen):RA B fp w bm gt (.pk k off n sz) (.slice (some ⟨bm k,off,none⟩) n c)
theorem RA.keep {B B':Nat} {fp fp':Nat→Nat→Prop} {w w':World} {bm:BM} {gt:Nat→Value} (hz:∀b o,bm.z b o→fp b o) (hn:NC w w') (hB:B'≤B) (hf:∀b o,fp b o→fp' b o) (hw:∀b o,fp b o→w'.cell? ⟨b,o,none⟩=w.cell? ⟨b,o,none⟩) {u:AV} {v:Value} (h:RA B fp w bm gt u v):RA B' fp' w' bm gt u v:=by
 induction h with
 |d h=>exact .d (h.keep hB hf hw)
 |ptr=>exact .ptr
 |own h=>exact .own (h.keep hB hf hw)
 |agg vs h4 h7 ih=>exact .agg vs h4 ih
 |tup vs h4 h7 ih=>exact .tup vs h4 ih
 |cl us vs h3 h4 h6 h7 ih6 ih7=>exact .cl us vs h3 h4 ih6 ih7
 |pk h1 h2=>exact .pk h1 h2
 |sem h1 h=>exact .sem h1 fun z' w'' k1 k2 k3=>h z' w'' k1 (fun b o hb=>(k2 b o hb).trans (hw b o (hz b o hb))) (hn.trans k3)
mutual
def AV.clean (k:Nat):AV→Bool
 | .d _=>true
 | .ptr j _=> !(Nat.beq j k)
 | .own j _ _ _ _=> !(Nat.beq j k)
 | .agg cs=>AV.cleans k cs
 | .tup cs=>AV.cleans k cs
 | .sem _=>true
 | .cl _ fs cs=>AV.cleans k fs&&AV.cleans k cs
 | .pk j _ _ _=> !(Nat.beq j k)
def AV.cleans (k:Nat):List AV→Bool
 |[]=>true
 |c::r=>c.clean k&&AV.cleans k r
end
theorem AV.cleans_get {k:Nat}:∀{l:List AV} {i:Nat} {u:AV},AV.cleans k l=true→l[i]?=some u→u.clean k=true
 |[],_,_,_,h=>by simp at h
 |c::r,0,u,hc,h=>by simp[AV.cleans] at hc h;subst h;exact hc.1
 |c::r,i+1,u,hc,h=>by
  simp only[AV.cleans,At] at hc
  exact AV.cleans_get hc.2 (by simpa using h)
theorem jA {j k:Nat} (h:(!(Nat.beq j k))=true):j≠k:=by
 intro e;subst e
 rw[Nat.beq_refl] at h;cases h
theorem RA.turn {B:Nat} {fp:Nat→Nat→Prop} {w:World} {bm bm':BM} {gt gt':Nat→Value} {k:Nat} (hb:∀j,j≠k→bm' j=bm j) (hz:∀b o,bm.z b o→bm'.z b o) (hg:∀j,j≠k→gt' j=gt j) {u:AV} {v:Value} (h:RA B fp w bm gt u v) (hc:u.clean k=true):RA B fp w bm' gt' u v:=by
 induction h with
 |d h=>exact .d h
 |@ptr j off=>
  have:=hb j (jA (by simpa only[AV.clean] using hc))
  rw[←this];exact .ptr
 |@own j n sz e cs h=>
  have:=hg j (jA (by simpa only[AV.clean] using hc))
  rw[←this] at h⊢;exact .own h
 |agg vs h4 h7 ih=>exact .agg vs h4 fun i u v hu hv=>ih i u v hu hv (AV.cleans_get (by simpa only[AV.clean] using hc) hu)
 |tup vs h4 h7 ih=>exact .tup vs h4 fun i u v hu hv=>ih i u v hu hv (AV.cleans_get (by simpa only[AV.clean] using hc) hu)
 |sem h1 h=>exact .sem h1 fun z' w'' k1 k2 k3=>h z' w'' (fun b o hb=>k1 b o (hz b o hb)) (fun b o hb=>k2 b o (hz b o hb)) k3
 |cl us vs h3 h4 h6 h7 ih6 ih7=>
  simp only[AV.clean,At] at hc
  exact .cl us vs h3 h4 (fun i u v hu hv=>ih6 i u v hu hv (AV.cleans_get hc.1 hu)) (fun i u v hu hv=>ih7 i u v hu hv (AV.cleans_get hc.2 hu))
 |@pk j off n sz c h1 h2=>
  have:=hb j (jA (by simpa only[AV.clean] using hc))
  rw[←this];exact .pk h1 h2
mutual
def AV.share (k:Nat):AV→AV
 | .d x=> .d x
 | .ptr j o=> .ptr j o
 | .own j n sz e cs=>match Nat.beq j k with
   |true=> .d (.sl true n sz cs)
   |false=> .own j n sz e cs
 | .agg cs=> .agg (AV.shares k cs)
 | .tup cs=> .tup (AV.shares k cs)
 | .sem φ=> .sem φ
 | .cl f fs cs=> .cl f (AV.shares k fs) (AV.shares k cs)
 | .pk j o n sz=> .pk j o n sz
def AV.shares (k:Nat):List AV→List AV
 |[]=>[]
 |c::r=>c.share k::AV.shares k r
end
theorem AV.shares_eq (k:Nat) (l:List AV):AV.shares k l=l.map (AV.share k):=by
 induction l with
 |nil=>rfl
 |cons d r ih=>rw[AV.shares,ih];rfl
theorem RA.share {B:Nat} {fp:Nat→Nat→Prop} {w:World} {bm:BM} {gt gt':Nat→Value} {k:Nat} (hg:∀j,j≠k→gt' j=gt j) {u:AV} {v:Value} (h:RA B fp w bm gt u v):RA B fp w bm gt' (u.share k) v:=by
 induction h with
 |d h=>exact .d h
 |ptr=>exact .ptr
 |sem h1 h=>exact .sem h1 h
 |pk h1 h2=>exact .pk h1 h2
 |cl us vs h3 h4 h6 h7 ih6 ih7=>
  unfold AV.share
  refine .cl us vs (by rw[AV.shares_eq,List.length_map];exact h3) (by rw[AV.shares_eq,List.length_map];exact h4) (fun i u v hu hv=> ?_) (fun i u v hu hv=> ?_)
  ·rw[AV.shares_eq,List.getElem?_map,Option.map_eq_some_iff] at hu
   obtain⟨u0,hu0,rfl⟩:=hu
   exact ih6 i u0 v hu0 hv
  ·rw[AV.shares_eq,List.getElem?_map,Option.map_eq_some_iff] at hu
   obtain⟨u0,hu0,rfl⟩:=hu
   exact ih7 i u0 v hu0 hv
 |@own j n sz e cs h=>
  unfold AV.share
  cases hb:Nat.beq j k with
  |true=>exact .d h
  |false=>
   have:=hg j (fun e=>by subst e;rw[Nat.beq_refl] at hb;cases hb)
   simp only[]
   rw[←this] at h⊢
   exact .own h
 |agg vs h4 h7 ih=>
  unfold AV.share
  refine .agg vs (by rw[AV.shares_eq,List.length_map];exact h4) fun i u v hu hv=> ?_
  rw[AV.shares_eq,List.getElem?_map,Option.map_eq_some_iff] at hu
  obtain⟨u0,hu0,rfl⟩:=hu
  exact ih i u0 v hu0 hv
 |tup vs h4 h7 ih=>
  unfold AV.share
  refine .tup vs (by rw[AV.shares_eq,List.length_map];exact h4) fun i u v hu hv=> ?_
  rw[AV.shares_eq,List.getElem?_map,Option.map_eq_some_iff] at hu
  obtain⟨u0,hu0,rfl⟩:=hu
  exact ih i u0 v hu0 hv
def lk {β:Type} (t:Nat):List (Nat×β)→Option β
 |[]=>none
 |(k,b)::r=>match Nat.beq k t with
  |true=>some b
  |false=>lk t r
theorem Bs {β:Type} (t:Nat) (b:β) (r:List (Nat×β)):lk t ((t,b)::r)=some b:=by
 simp only[lk,Nat.beq_refl]
theorem Cf {β:Type} {t k:Nat} (b:β) (r:List (Nat×β)) (h:k≠t):lk t ((k,b)::r)=lk t r:=by
 have:Nat.beq k t=false:=by
  cases hb:Nat.beq k t with
  |false=>rfl
  |true=>exact absurd (Nat.eq_of_beq_eq_true hb) h
 simp only[lk,this]
structure AS where
 tm:List (Nat×AV)
 bx:List (Nat×List AV)
 tk:List (Nat×Nat×Nat×TypeId)
theorem Xk {t n:Nat} (h:Nat.blt t n=true):t<n:=Nat.le_of_ble_eq_true h
structure Cx where
 W:World
 fp0:Nat→Nat→Prop
 N:Nat
 gh:Nat→Option Value
 z0:Nat→Nat→Prop
def Cx.val (C:Cx) (a:Act) (t:Nat):Option Value:=bif Nat.blt t 1000000 then a.tmps[t]? else C.gh t
theorem Cx.val_lt {C:Cx} {a:Act} {t:Nat} (h:t<1000000):C.val a t=a.tmps[t]?:=by
 have:Nat.blt t 1000000=true:=Nat.ble_eq_true_of_le h
 simp only[Cx.val,this,cond_true]
structure BoxOk (B:Nat) (fp:Nat→Nat→Prop) (w:World) (bm:BM) (gt:Nat→Value) (b:Nat) (cs:List AV):Prop where
 own:B≤b
 un:∀o,¬fp b o
 obj:∃cur e,w.heap[b]?=some (.cells cur e (0,0))∧cs.length≤cur.size∧∀(i:Nat) u v,cs[i]?=some u→cur[i]?=some v→RA B fp w bm gt u v
theorem BoxOk.lt {B:Nat} {fp:Nat→Nat→Prop} {w:World} {bm:BM} {gt:Nat→Value} {b:Nat} {cs:List AV} (h:BoxOk B fp w bm gt b cs):b<w.heap.size:=by
 obtain⟨cur,e,h1,_⟩:=h.obj
 exact(Array.getElem?_eq_some_iff.1 h1).1
structure TokOk (B:Nat) (fp:Nat→Nat→Prop) (w:World) (v:Value) (n sz:Nat) (e:TypeId):Prop where
 own:∃xs,w.ownsRow B e sz v n xs
 tail:∀g,v.ownBlock=some g→∀o,n*sz≤o→¬fp g o
structure GG (C:Cx) (bm:BM) (gt:Nat→Value) (fp:Nat→Nat→Prop) (σ:AS) (a:Act) (w:World):Prop where
 sz:a.tmps.size=C.N
 nN:C.N≤1000000
 gd:Gd C.W
 zf:∀b o,bm.z b o→fp b o
 za:∀b o,C.z0 b o→bm.z b o
 zb:∀b o,bm.z b o→C.z0 b o∨C.W.heap.size≤b
 ztk:∀k x,lk k σ.tk=some x→∀g,(gt k).ownBlock=some g→∀o,¬bm.z g o
 df:a.defers=[]
 tm:∀t u,lk t σ.tm=some u→∃v,C.val a t=some v∧RA C.W.heap.size fp w bm gt u v
 bx:∀k cs,lk k σ.bx=some cs→BoxOk C.W.heap.size fp w bm gt (bm k) cs
 bxi:∀k k' cs cs',lk k σ.bx=some cs→lk k' σ.bx=some cs'→bm k=bm k'→k=k'
 tk:∀k n sz e,lk k σ.tk=some (n,sz,e)→TokOk C.W.heap.size fp w (gt k) n sz e
 tki:∀k k' x x',lk k σ.tk=some x→lk k' σ.tk=some x'→(gt k).ownBlock≠none→(gt k).ownBlock=(gt k').ownBlock→k=k'
 tkb:∀k k' x cs,lk k σ.tk=some x→lk k' σ.bx=some cs→(gt k).ownBlock≠some (bm k')
 fpb:∀b o,fp b o→(C.fp0 b o∨C.W.heap.size≤b)∧b<w.heap.size
 fp0:∀b o,C.fp0 b o→fp b o
 fpB:∀b o,C.fp0 b o→b<C.W.heap.size
 bel:Below C.W.heap.size C.W w
theorem GG.gdw {C:Cx} {bm:BM} {gt:Nat→Value} {fp:Nat→Nat→Prop} {σ:AS} {a:Act} {w:World} (h:GG C bm gt fp σ a w):Gd w:=Gd.below h.bel h.gd
theorem RA.zmono {B:Nat} {fp:Nat→Nat→Prop} {w:World} {bm:BM} {gt:Nat→Value} {z:Nat→Nat→Prop} (hz:∀b o,bm.z b o→z b o) {u:AV} {v:Value} (h:RA B fp w bm gt u v):RA B fp w ⟨bm.m,z⟩ gt u v:=by
 induction h with
 |d h=>exact .d h
 |@ptr k off=>exact .ptr (bm:=⟨bm.m,z⟩) (k:=k)
 |own h=>exact .own h
 |agg vs h4 h7 ih=>exact .agg vs h4 ih
 |tup vs h4 h7 ih=>exact .tup vs h4 ih
 |sem h1 h=>exact .sem h1 fun z' w' k1 k2 k3=>h z' w' (fun b o hb=>k1 b o (hz b o hb)) (fun b o hb=>k2 b o (hz b o hb)) k3
 |cl us vs h3 h4 h6 h7 ih6 ih7=>exact .cl us vs h3 h4 ih6 ih7
 |@pk k off n sz c h1 h2=>exact .pk (bm:=⟨bm.m,z⟩) (k:=k) h1 h2
def G (C:Cx) (σ:AS) (a:Act) (w:World):Prop:=∃bm gt fp,GG C bm gt fp σ a w
theorem GG.grow {C:Cx} {bm:BM} {gt:Nat→Value} {fp:Nat→Nat→Prop} {σ:AS} {a:Act} {w w':World} (h:GG C bm gt fp σ a w) (hb:Below w.heap.size w w'):GG C bm gt fp σ a w':=by
 have hc:∀b o,fp b o→w'.cell? ⟨b,o,none⟩=w.cell? ⟨b,o,none⟩:=fun b o hf=>hb.cell (p:=⟨b,o,none⟩) (h.fpb b o hf).2
 have keep:∀{u v},RA C.W.heap.size fp w bm gt u v→RA C.W.heap.size fp w' bm gt u v:=fun hr=>hr.keep h.zf (NC.below hb) (Nat.le_refl _) (fun _ _ x=>x) hc
 refine{sz:=h.sz,nN:=h.nN,gd:=h.gd,za:=h.za,zb:=h.zb,zf:=h.zf,ztk:=h.ztk,df:=h.df,tm:=fun t u hu=> ?_,bx:=fun k cs hk=> ?_,bxi:=h.bxi,tk:=fun k n sz e hk=> ?_,tki:=h.tki,tkb:=h.tkb,fpb:=fun b o hf=>⟨(h.fpb b o hf).1,Nat.lt_of_lt_of_le (h.fpb b o hf).2 hb.size⟩,fp0:=h.fp0,fpB:=h.fpB,bel:=h.bel.trans (hb.mono h.bel.size)}
 ·obtain⟨v,h1,h2⟩:=h.tm t u hu
  exact⟨v,h1,keep h2⟩
 ·have hx:=h.bx k cs hk
  obtain⟨cur,e,h1,h2,h3⟩:=hx.obj
  exact⟨hx.own,hx.un,cur,e,(hb.block _ hx.lt).trans h1,h2,fun i u v hu hv=>keep (h3 i u v hu hv)⟩
 ·have hx:=h.tk k n sz e hk
  obtain⟨xs,hxs⟩:=hx.own
  exact⟨⟨xs,iP hxs hb⟩,hx.tail⟩
def AS.put (σ:AS) (t:Nat) (u:AV):AS:={σ with tm:=(t,u)::σ.tm}
@[simp] theorem AS.put_tm (σ:AS) (t:Nat) (u:AV):(σ.put t u).tm=(t,u)::σ.tm:=rfl
@[simp] theorem AS.put_bx (σ:AS) (t:Nat) (u:AV):(σ.put t u).bx=σ.bx:=rfl
@[simp] theorem AS.put_tk (σ:AS) (t:Nat) (u:AV):(σ.put t u).tk=σ.tk:=rfl
def shB (k:Nat):List (Nat×List AV)→List (Nat×List AV)
 |[]=>[]
 |(j,c)::r=>(j,AV.shares k c)::shB k r
def shT (k:Nat):List (Nat×AV)→List (Nat×AV)
 |[]=>[]
 |(j,c)::r=>(j,c.share k)::shT k r
def AS.share (k:Nat) (σ:AS):AS:=⟨shT k σ.tm,shB k σ.bx,σ.tk⟩
theorem jB (k t:Nat):∀l:List (Nat×AV),lk t (shT k l)=(lk t l).map (AV.share k)
 |[]=>rfl
 |(j,c)::r=>by
  simp only[shT,lk]
  cases Nat.beq j t with
  |true=>rfl
  |false=>exact jB k t r
theorem Ul (k t:Nat):∀l:List (Nat×List AV),lk t (shB k l)=(lk t l).map (AV.shares k)
 |[]=>rfl
 |(j,c)::r=>by
  simp only[shB,lk]
  cases Nat.beq j t with
  |true=>rfl
  |false=>exact Ul k t r
def clB (k:Nat):List (Nat×List AV)→Bool
 |[]=>true
 |(_,c)::r=>AV.cleans k c&&clB k r
def clT (k:Nat):List (Nat×AV)→Bool
 |[]=>true
 |(_,c)::r=>c.clean k&&clT k r
def AS.clean (k:Nat) (σ:AS):Bool:=clT k σ.tm&&clB k σ.bx
theorem Zw {k t:Nat} {u:AV}:∀{l:List (Nat×AV)},clT k l=true→lk t l=some u→u.clean k=true
 |[],_,h=>by cases h
 |(j,c)::r,hc,h=>by
  simp only[clT,At] at hc
  simp only[lk] at h
  cases hb:Nat.beq j t with
  |true=>rw[hb] at h;cases h;exact hc.1
  |false=>rw[hb] at h;exact Zw hc.2 h
theorem Zx {k t:Nat} {u:List AV}:∀{l:List (Nat×List AV)},clB k l=true→lk t l=some u→AV.cleans k u=true
 |[],_,h=>by cases h
 |(j,c)::r,hc,h=>by
  simp only[clB,At] at hc
  simp only[lk] at h
  cases hb:Nat.beq j t with
  |true=>rw[hb] at h;cases h;exact hc.1
  |false=>rw[hb] at h;exact Zx hc.2 h
theorem GG.put {C:Cx} {bm:BM} {gt:Nat→Value} {fp:Nat→Nat→Prop} {σ:AS} {a:Act} {w:World} (h:GG C bm gt fp σ a w) {t:Nat} {u:AV} {v:Value} (ht:t<C.N) (hr:RA C.W.heap.size fp w bm gt u v):GG C bm gt fp (σ.put t u) (a.put (some t) v) w:=by
 refine{sz:=by simp[Act.put,h.sz],nN:=h.nN,gd:=h.gd,za:=h.za,zb:=h.zb,zf:=h.zf,ztk:=h.ztk,df:=h.df,tm:=fun s x hx=> ?_,bx:=h.bx,bxi:=h.bxi,tk:=h.tk,tki:=h.tki,tkb:=h.tkb,fpb:=h.fpb,fp0:=h.fp0,fpB:=h.fpB,bel:=h.bel}
 by_cases e:t=s
 ·subst e
  rw[AS.put_tm,Bs] at hx
  cases hx
  exact⟨v,by rw[Cx.val_lt (Nat.lt_of_lt_of_le ht h.nN)];simp[Act.put,h.sz,ht],hr⟩
 ·rw[AS.put_tm,Cf _ _ e] at hx
  obtain⟨v',h1,h2⟩:=h.tm s x hx
  exact⟨v',by simp only[Act.put,Cx.val] at h1⊢;rw[Array.getElem?_setIfInBounds_ne e];exact h1,h2⟩
def AS.eval (σ:AS):Operand→Option AV
 | .tmp t=>bif Nat.blt t 1000000 then lk t σ.tm else none
 | .const v=>some (.d (.v v))
 | .func f=>some (.d (.fn f []))
 | .global _=>none
theorem GG.eval {C:Cx} {bm:BM} {gt:Nat→Value} {fp:Nat→Nat→Prop} {σ:AS} {a:Act} {w:World} (h:GG C bm gt fp σ a w) {x:Operand} {u:AV} (hx:σ.eval x=some u):RA C.W.heap.size fp w bm gt u (a.eval x):=by
 cases x with
 |tmp t=>
  simp only[AS.eval] at hx
  cases hb:Nat.blt t 1000000 with
  |false=>rw[hb] at hx;cases hx
  |true=>
  rw[hb] at hx
  obtain⟨v,h1,h2⟩:=h.tm t u hx
  rw[Cx.val_lt (Xk hb)] at h1
  simp only[Act.eval,Array.getD_eq_getD_getElem?,h1,Option.getD_some]
  exact h2
 |const v=>simp only[AS.eval,Option.some.injEq] at hx;subst hx;exact .d (.v _)
 |func f=>simp only[AS.eval,Option.some.injEq] at hx;subst hx;exact .d (.fn [] rfl (fun i d u h=>by simp at h))
 |global g=>cases hx
theorem RA.val {B:Nat} {fp:Nat→Nat→Prop} {w:World} {bm:BM} {gt:Nat→Value} {x v:Value} (h:RA B fp w bm gt (.d (.v x)) v):v=x:=by
 cases h with|d h=>cases h;rfl
structure TyOk (P:Program) (t:TypeId) (d:TypeDesc) (z:Value) (sz bytes:Nat):Prop where
 u:P.underlying t=some d
 i:(P.info? t).map (fun i=>(i.zero,i.size,i.bytes))=some (some z,sz,bytes)
def Jm:TypeDesc→Bool
 | .struct _| .array _ _=>true
 |_=>false
theorem TyOk.inf {P:Program} {t:TypeId} {d:TypeDesc} {z:Value} {sz bytes:Nat} (h:TyOk P t d z sz bytes):∃i,P.info? t=some i∧i.zero=some z∧i.size=sz∧i.bytes=bytes:=by
 have:=h.i
 cases hi:P.info? t with
 |none=>simp[hi] at this
 |some i=>simp[hi] at this;exact⟨i,rfl,this.1,this.2.1,this.2.2⟩
theorem TyOk.size {P:Program} {t:TypeId} {d:TypeDesc} {z:Value} {sz bytes:Nat} (h:TyOk P t d z sz bytes) (w:World):(sizeOf t).run P w= .ok sz w:=by
 obtain⟨i,h1,-,h3,-⟩:=h.inf
 simp[sizeOf,typeInfo,go_sem,h1,h3]
theorem TyOk.zero {P:Program} {t:TypeId} {d:TypeDesc} {z:Value} {sz bytes:Nat} (h:TyOk P t d z sz bytes) (w:World):(zeroValue t).run P w= .ok z w:=by
 obtain⟨i,h1,h2,-,-⟩:=h.inf
 simp[zeroValue,typeInfo,go_sem,h1,h2]
theorem TyOk.agg {P:Program} {t:TypeId} {d:TypeDesc} {z:Value} {sz bytes:Nat} (h:TyOk P t d z sz bytes) (w:World):(isAgg t).run P w= .ok (Jm d) w:=by
 unfold isAgg
 rw[Sem.run_bind,run_underlying h.u]
 cases d<;>rfl
theorem TyOk.und {P:Program} {t:TypeId} {d:TypeDesc} {z:Value} {sz bytes:Nat} (h:TyOk P t d z sz bytes) (w:World):(underlying t).run P w= .ok d w:=run_underlying h.u w
def Bp (P:Program) (C:Cx) (o:Oper) (σ σ':AS):Prop:=∀a w,G C σ a w→∀K Q,(∀a' w',G C σ' a' w'→K a' w')→o.wp P a w K Q
def Um (C:Cx) (Φ:Exit→AS→Prop):Exit→Act→World→Prop:=fun e a w=>∃σ,Φ e σ∧G C σ a w
def J7 (P:Program) (C:Cx) (ops:Array Oper) (Φ:Exit→AS→Prop) (l:List Oper) (σ:AS):Prop:=∀a w,G C σ a w→wpList P ops (Um C Φ) l a w
theorem wC {P:Program} {C:Cx} {ops:Array Oper} {Φ:Exit→AS→Prop} {σ:AS} (h:Φ .normal σ):J7 P C ops Φ [] σ:=fun _ _ hg=>⟨σ,h,hg⟩
theorem Hm {C:Cx} {σ:AS} {a:Act} {w:World} {ops:Array Oper} (hG:G C σ a w) {j:Nat} {oj:Oper} {t:Nat} {b:Bool} (hj:ops[j]?=some oj) (hd:oj.dst=some t) (hb:lk t σ.tm=some (.d (.v (.bool b)))) (hN:t<1000000):yielded ops a.tmps j=some b:=by
 obtain⟨bm,gt,fp,hg⟩:=hG
 obtain⟨v,h1,h2⟩:=hg.tm t _ hb
 rw[Cx.val_lt hN] at h1
 obtain rfl:=h2.val
 simp[yielded,hj,hd,h1]
theorem Jv {C:Cx} {σ:AS} {a:Act} {w:World} {ops:Array Oper} (hG:G C σ a w) {j:Nat} {oj:Oper} {t:Nat} {x:Array Value} (hj:ops[j]?=some oj) (hd:oj.dst=some t) (hb:lk t σ.tm=some (.d (.v (.tuple x)))) (hN:t<1000000):yielded ops a.tmps j=none:=by
 obtain⟨bm,gt,fp,hg⟩:=hG
 obtain⟨v,h1,h2⟩:=hg.tm t _ hb
 rw[Cx.val_lt hN] at h1
 obtain rfl:=h2.val
 simp[yielded,hj,hd,h1]
theorem G.put {C:Cx} {σ:AS} {a:Act} {w:World} (h:G C σ a w) {t:Nat} (ht:t<C.N) (v:Value):G C (σ.put t (.d (.v v))) (a.put (some t) v) w:=by
 obtain⟨bm,gt,fp,hg⟩:=h
 exact⟨bm,gt,fp,hg.put ht (.d (.v v))⟩
theorem rS {P:Program} {C:Cx} {ops:Array Oper} {Φ:Exit→AS→Prop} {o:Oper} {r:List Oper} {σ:AS} {j:Nat} {b c:Bool} {oj:Oper} {t s:Nat} (hg:o.guard=some (j,b)) (hj:ops[j]?=some oj) (hd:oj.dst=some t) (hb:lk t σ.tm=some (.d (.v (.bool c)))) (hN0:t<1000000) (hc:c= !b)
 (hs:o.dst=some s) (hN:s<C.N) (k:J7 P C ops Φ r (σ.put s (.d (.v undef)))):J7 P C ops Φ (o::r) σ:=by
 intro a w hG
 have hy:=Hm hG hj hd hb hN0
 refine wpList_step fun K hK=> ?_
 rw[if_neg (by subst hc;simp[Region.wanted,hg,hy])]
 rw[hs]
 exact hK _ _ (k _ _ (hG.put hN undef))
theorem jC {P:Program} {C:Cx} {ops:Array Oper} {Φ:Exit→AS→Prop} {o:Oper} {r:List Oper} {σ:AS} {j:Nat} {b c:Bool} {oj:Oper} {t:Nat} (hg:o.guard=some (j,b)) (hj:ops[j]?=some oj) (hd:oj.dst=some t) (hb:lk t σ.tm=some (.d (.v (.bool c)))) (hN0:t<1000000) (hc:c= !b)
 (hs:o.dst=none) (k:J7 P C ops Φ r σ):J7 P C ops Φ (o::r) σ:=by
 intro a w hG
 have hy:=Hm hG hj hd hb hN0
 refine wpList_step fun K hK=> ?_
 rw[if_neg (by subst hc;simp[Region.wanted,hg,hy])]
 rw[hs]
 exact hK _ _ (k _ _ hG)
theorem jD {P:Program} {C:Cx} {ops:Array Oper} {Φ:Exit→AS→Prop} {o:Oper} {r:List Oper} {σ:AS} {j:Nat} {b:Bool} {x:Array Value} {oj:Oper} {t s:Nat} (hg:o.guard=some (j,b)) (hj:ops[j]?=some oj) (hd:oj.dst=some t) (hb:lk t σ.tm=some (.d (.v (.tuple x)))) (hN0:t<1000000)
 (hs:o.dst=some s) (hN:s<C.N) (k:J7 P C ops Φ r (σ.put s (.d (.v undef)))):J7 P C ops Φ (o::r) σ:=by
 intro a w hG
 have hy:=Jv hG hj hd hb hN0
 refine wpList_step fun K hK=> ?_
 rw[if_neg (by simp[Region.wanted,hg,hy])]
 rw[hs]
 exact hK _ _ (k _ _ (hG.put hN undef))
theorem cW {P:Program} {C:Cx} {ops:Array Oper} {Φ:Exit→AS→Prop} {o:Oper} {r:List Oper} {σ:AS} {j:Nat} {b:Bool} {x:Array Value} {oj:Oper} {t:Nat} (hg:o.guard=some (j,b)) (hj:ops[j]?=some oj) (hd:oj.dst=some t) (hb:lk t σ.tm=some (.d (.v (.tuple x)))) (hN0:t<1000000)
 (hs:o.dst=none) (k:J7 P C ops Φ r σ):J7 P C ops Φ (o::r) σ:=by
 intro a w hG
 have hy:=Jv hG hj hd hb hN0
 refine wpList_step fun K hK=> ?_
 rw[if_neg (by simp[Region.wanted,hg,hy])]
 rw[hs]
 exact hK _ _ (k _ _ hG)
section
variable {P:Program} {C:Cx} {o:Oper} {σ:AS} {t:Nat}
theorem Ba {u:AV} (hd:o.dst=some t) (ht:t<C.N) (h:∀a w bm gt fp,GG C bm gt fp σ a w→∃v,(execOp a.eval o).run P w= .ok (.value v) w∧RA C.W.heap.size fp w bm gt u v):Bp P C o σ (σ.put t u):=by
 rintro a w ⟨bm,gt,fp,hg⟩ K Q hK
 obtain⟨v,h1,h2⟩:=h a w bm gt fp hg
 unfold Oper.wp
 rw[h1,Oper.upon_value,hd]
 exact hK _ _ ⟨bm,gt,fp,hg.put ht h2⟩
theorem rU {x:Operand} {u:AV} (ho:o.op= .move x) (hd:o.dst=some t) (ht:t<C.N) (hx:σ.eval x=some u):Bp P C o σ (σ.put t u):=
 Ba hd ht fun a w bm gt fp hg=>⟨a.eval x,by simp only[execOp,ho];rfl,hg.eval hx⟩
theorem cX {x:Operand} {u:AV} (ho:o.op= .assign x) (hd:o.dst=some t) (ht:t<C.N) (hx:σ.eval x=some u):Bp P C o σ (σ.put t u):=
 Ba hd ht fun a w bm gt fp hg=>⟨a.eval x,by simp only[execOp,ho];rfl,hg.eval hx⟩
theorem rV {c x y:Operand} {b:Bool} {u:AV} (ho:o.op= .pick c x y) (hd:o.dst=some t) (ht:t<C.N) (hc:σ.eval c=some (.d (.v (.bool b)))) (hx:σ.eval (bif b then x else y)=some u):Bp P C o σ (σ.put t u):=
 Ba hd ht fun a w bm gt fp hg=>⟨a.eval (bif b then x else y),by
  have:=(hg.eval hc).val
  simp only[execOp,ho,this]
  cases b<;>rfl,hg.eval hx⟩
theorem wD {op:BinOp} {xt yt:TypeId} {x y:Operand} {p q z:Value} (ho:o.op= .binOp op xt x y yt) (hd:o.dst=some t) (ht:t<C.N) (hx:σ.eval x=some (.d (.v p))) (hy:σ.eval y=some (.d (.v q)))
 (hz:∀w,(do eqGuard op xt x y p q;binOp op xt p q:Sem Value).run P w= .ok z w):Bp P C o σ (σ.put t (.d (.v z))):=
 Ba hd ht fun a w bm gt fp hg=>⟨z,by
  have h1:=(hg.eval hx).val
  have h2:=(hg.eval hy).val
  simp only[execOp,ho,h1,h2]
  rw[Sem.run_bind,hz w]
  rfl,.d (.v z)⟩
def OQ (op:BinOp) (k:IntKind) (m n:Int):Option Value:=
 match op with
 | .add=>some (.int k (k.wrap (m+n)))
 | .sub=>some (.int k (k.wrap (m-n)))
 | .mul=>some (.int k (k.wrap (m*n)))
 | .and=>some (.int k (k.wrap (BitVec.ofInt k.bits m&&&BitVec.ofInt k.bits n).toNat))
 | .or=>some (.int k (k.wrap (BitVec.ofInt k.bits m|||BitVec.ofInt k.bits n).toNat))
 | .xor=>some (.int k (k.wrap (BitVec.ofInt k.bits m^^^BitVec.ofInt k.bits n).toNat))
 | .eql=>some (.bool (m==n))
 | .neq=>some (.bool (m !=n))
 | .lss=>some (.bool (m<n))
 | .leq=>some (.bool (m≤n))
 | .gtr=>some (.bool (m>n))
 | .geq=>some (.bool (m≥n))
 |_=>none
theorem wE {xt:TypeId} {x:Operand} {b:Bool} (ho:o.op= .unOp .not xt x) (hd:o.dst=some t) (ht:t<C.N) (hx:σ.eval x=some (.d (.v (.bool b)))):Bp P C o σ (σ.put t (.d (.v (.bool !b)))):=
 Ba hd ht fun a w bm gt fp hg=>⟨.bool !b,by
  have h1:=(hg.eval hx).val
  simp only[execOp,ho,h1]
  rfl,.d (.v _)⟩
theorem X7 {src dst:TypeId} {x:Operand} {k k0:IntKind} {d:TypeDesc} {m z:Int} (ho:o.op= .convert src dst x) (hd:o.dst=some t) (ht:t<C.N) (hs:P.underlying src=some d) (hu:P.underlying dst=some (.int k)) (hx:σ.eval x=some (.d (.v (.int k0 m)))) (hz:k.wrap m=z):
 Bp P C o σ (σ.put t (.d (.v (.int k z)))):=
 Ba hd ht fun a w bm gt fp hg=>⟨.int k z,by
  have h1:=(hg.eval hx).val
  subst hz
  simp only[execOp,ho,h1]
  simp[convert,run_underlying hs,run_underlying hu,Conv.intToInt,go_sem],.d (.v _)⟩
theorem Zy {x:Operand} {i:Nat} {us:List AV} {u:AV} (ho:o.op= .extract x i) (hd:o.dst=some t) (ht:t<C.N) (hx:σ.eval x=some (.tup us)) (hi:us[i]?=some u):Bp P C o σ (σ.put t u):=
 Ba hd ht fun a w bm gt fp hg=>by
  have h:=hg.eval hx
  generalize hv:a.eval x=v at h
  cases h with
  |tup vs h4 h7=>
   have hlt:i<vs.length:=by rw[h4];exact(Aw.1 hi).1
   refine⟨vs[i],?_,h7 i u _ hi (Am hlt)⟩
   simp only[execOp,ho,hv,Instr.extract]
   simp[go_sem,hlt]
end
theorem add_lit (b o j:Nat):(⟨b,o,none⟩:Addr).add j=⟨b,o+j,none⟩:=by unfold Addr.add;split<;>simp_all
theorem GG.setBox {C:Cx} {bm:BM} {gt:Nat→Value} {fp:Nat→Nat→Prop} {σ:AS} {a:Act} {w:World} (h:GG C bm gt fp σ a w) {k:Nat} {cs cs':List AV} (hk:lk k σ.bx=some cs) {cur cur':Array Value} {e:TypeId}
 (hcur:w.heap[bm k]?=some (.cells cur e (0,0))) (hl:cs'.length≤cur'.size) (hr:∀(i:Nat) u v,cs'[i]?=some u→cur'[i]?=some v→RA C.W.heap.size fp w bm gt u v):
 GG C bm gt fp {σ with bx:=(k,cs')::σ.bx} a (w.setRow (bm k) cur'):=by
 have hx:=h.bx k cs hk
 have hoth:∀j,j≠bm k→(w.setRow (bm k) cur').heap[j]?=w.heap[j]?:=fun j hj=>setRow_other w (bm k) j cur' hj
 have hfp:∀b o,fp b o→b≠bm k:=fun b o hf e=>hx.un o (e▸hf)
 have hc:∀b o,fp b o→(w.setRow (bm k) cur').cell? ⟨b,o,none⟩=w.cell? ⟨b,o,none⟩:=fun b o hf=>World.cell?_of_block (hoth b (hfp b o hf))
 have hnc:NC w (w.setRow (bm k) cur'):=NC.one hcur fun j _ hj=>hoth j hj
 have keep:∀{u v},RA C.W.heap.size fp w bm gt u v→RA C.W.heap.size fp (w.setRow (bm k) cur') bm gt u v:=fun hr=>hr.keep h.zf hnc (Nat.le_refl _) (fun _ _ x=>x) hc
 refine{sz:=h.sz,nN:=h.nN,gd:=h.gd,za:=h.za,zb:=h.zb,zf:=h.zf,ztk:=h.ztk,df:=h.df,tm:=fun t u hu=> ?_,bx:=fun j c hj=> ?_,bxi:=fun j j' c c' hj hj' he=> ?_,tk:=fun j n sz e hj=> ?_,tki:=h.tki,tkb:=fun j j' x c hj hj'=> ?_,fpb:=fun b o hf=>⟨(h.fpb b o hf).1,by rw[setRow_size];exact(h.fpb b o hf).2⟩,fp0:=h.fp0,fpB:=h.fpB,bel:= ?_}
 ·obtain⟨v,h1,h2⟩:=h.tm t u hu
  exact⟨v,h1,keep h2⟩
 ·by_cases ej:k=j
  ·subst ej
   simp only[Bs,Option.some.injEq] at hj
   subst hj
   exact⟨hx.own,hx.un,cur',e,setRow_heap w (bm k) cur cur' e (0,0) hcur,hl,fun i u v hu hv=>keep (hr i u v hu hv)⟩
  ·simp only[Cf _ _ ej] at hj
   have hy:=h.bx j c hj
   obtain⟨cur2,e2,h1,h2,h3⟩:=hy.obj
   have hne:bm j≠bm k:=fun he=>ej (h.bxi k j cs c hk hj he.symm)
   exact⟨hy.own,hy.un,cur2,e2,(hoth _ hne).trans h1,h2,fun i u v hu hv=>keep (h3 i u v hu hv)⟩
 ·have low:∀(i:Nat) d,lk i ((k,cs')::σ.bx)=some d→∃d',lk i σ.bx=some d':=fun i d hd=>by
   by_cases ei:k=i
   ·subst ei;exact⟨cs,hk⟩
   ·rw[Cf _ _ ei] at hd;exact⟨d,hd⟩
  obtain⟨d,hd⟩:=low j c hj
  obtain⟨d',hd'⟩:=low j' c' hj'
  exact h.bxi j j' d d' hd hd' he
 ·have hx':=h.tk j n sz e hj
  obtain⟨xs,hxs⟩:=hx'.own
  refine⟨⟨xs,hxs.kept (row:=some (bm k)) ⟨rfl,rfl,rfl,by rw[setRow_size];exact Nat.le_refl _,fun i _ hi=>hoth i (fun e=>hi (by rw[e]))⟩ (.inr (h.tkb j k _ cs hj hk))⟩,hx'.tail⟩
 ·by_cases ei:k=j'
  ·subst ei;exact h.tkb j k x cs hj hk
  ·simp only[Cf _ _ ei] at hj';exact h.tkb j j' x c hj hj'
 ·exact h.bel.trans ⟨rfl,rfl,rfl,by rw[setRow_size];exact Nat.le_refl _,fun i hi=>hoth i (fun e=>by have:=hx.own;omega)⟩
def BM.set (bm:BM) (k g:Nat):BM:=⟨fun j=>if j=k then g else bm.m j,bm.z⟩
theorem BM.set_same (bm:BM) (k g:Nat):(bm.set k g).m k=g:=by simp[BM.set]
theorem BM.set_ne (bm:BM) (k g:Nat) {j:Nat} (h:j≠k):(bm.set k g).m j=bm.m j:=by simp[BM.set,h]
theorem GG.newBox {C:Cx} {bm:BM} {gt:Nat→Value} {fp:Nat→Nat→Prop} {σ:AS} {a:Act} {w:World} (h:GG C bm gt fp σ a w) {k:Nat} (hc:σ.clean k=true) {cs:List AV} (hcc:AV.cleans k cs=true) {cur:Array Value} {e:TypeId}
 (hl:cs.length≤cur.size) (hr:∀(i:Nat) u v,cs[i]?=some u→cur[i]?=some v→RA C.W.heap.size fp w bm gt u v):
 GG C (bm.set k w.heap.size) gt fp {σ with bx:=(k,cs)::σ.bx} a (w.alloc (.cells cur e)):=by
 have hb0:Below w.heap.size w (w.alloc (.cells cur e)):=(Below.refl _ _).alloc (Nat.le_refl _) _
 have h':=h.grow (w':=w.alloc (.cells cur e)) hb0
 simp only[AS.clean,At] at hc
 have turn:∀{u v w2},RA C.W.heap.size fp w2 bm gt u v→u.clean k=true→RA C.W.heap.size fp w2 (bm.set k w.heap.size) gt u v:=fun hr hcl=>hr.turn (k:=k) (fun j hj=>BM.set_ne bm k _ hj) (fun _ _ x=>x) (fun _ _=>rfl) hcl
 have hcell:∀b o,fp b o→(w.alloc (.cells cur e)).cell? ⟨b,o,none⟩=w.cell? ⟨b,o,none⟩:=fun b o hf=>hb0.cell (p:=⟨b,o,none⟩) (h.fpb b o hf).2
 refine{sz:=h.sz,nN:=h.nN,gd:=h.gd,za:=h.za,zb:=h.zb,zf:=h.zf,ztk:=h.ztk,df:=h.df,tm:=fun t u hu=> ?_,bx:=fun j c hj=> ?_,bxi:=fun j j' c c' hj hj' he=> ?_,tk:=h'.tk,tki:=h.tki,tkb:=fun j j' x c hj hj'=> ?_,fpb:=h'.fpb,fp0:=h.fp0,fpB:=h.fpB,bel:=h'.bel}
 ·obtain⟨v,h1,h2⟩:=h'.tm t u hu
  exact⟨v,h1,turn h2 (Zw hc.1 hu)⟩
 ·by_cases ej:k=j
  ·subst ej
   simp only[Bs,Option.some.injEq] at hj
   subst hj
   refine⟨?_,fun o hf=> ?_,cur,e,?_,hl,fun i u v hu hv=> ?_⟩
   ·rw[BM.set_same];exact h.bel.size
   ·rw[BM.set_same] at hf;have:=(h.fpb _ _ hf).2;omega
   ·rw[BM.set_same];exact heap_alloc_new w _
   ·exact turn ((hr i u v hu hv).keep h.zf (NC.below hb0) (Nat.le_refl _) (fun _ _ x=>x) hcell) (AV.cleans_get hcc hu)
  ·simp only[Cf _ _ ej] at hj
   have hy:=h'.bx j c hj
   obtain⟨cur2,e2,h1,h2,h3⟩:=hy.obj
   have hne:(bm.set k w.heap.size).m j=bm.m j:=BM.set_ne bm k _ (fun e=>ej e.symm)
   refine⟨by rw[hne];exact hy.own,by rw[hne];exact hy.un,cur2,e2,by rw[hne];exact h1,h2,fun i u v hu hv=>turn (h3 i u v hu hv) (AV.cleans_get (Zx hc.2 hj) hu)⟩
 ·have lt:∀(i:Nat) d,k≠i→lk i ((k,cs)::σ.bx)=some d→lk i σ.bx=some d∧bm i<w.heap.size:=fun i d hne hd=>by
   rw[Cf _ _ hne] at hd;exact⟨hd,(h.bx i d hd).lt⟩
  by_cases e1:j=k
  ·by_cases e2:j'=k
   ·rw[e1,e2]
   ·rw[e1,BM.set_same,BM.set_ne bm k _ e2] at he
    have:=(lt j' c' (fun e=>e2 e.symm) hj').2
    omega
  ·by_cases e2:j'=k
   ·rw[e2,BM.set_same,BM.set_ne bm k _ e1] at he
    have:=(lt j c (fun e=>e1 e.symm) hj).2
    omega
   ·rw[BM.set_ne bm k _ e1,BM.set_ne bm k _ e2] at he
    exact h.bxi j j' c c' (lt j c (fun e=>e1 e.symm) hj).1 (lt j' c' (fun e=>e2 e.symm) hj').1 he
 ·by_cases e2:j'=k
  ·rw[e2,BM.set_same]
   obtain⟨xs,hxs⟩:=(h.tk j x.1 x.2.1 x.2.2 hj).own
   intro ho
   have:=(hxs.lt _ ho).2
   omega
  ·rw[BM.set_ne bm k _ e2]
   simp only[Cf _ _ (fun e=>e2 e.symm:k≠j')] at hj'
   exact h.tkb j j' x c hj hj'
def AV.one:AV→Bool
 | .d (.v x)=>x.oneCell'
 | .d _=>true
 | .ptr _ _=>true
 | .own _ _ _ _ _=>true
 | .sem _=>true
 | .cl _ _ _=>true
 | .pk _ _ _ _=>true
 |_=>false
def AV.cells:AV→List AV
 | .agg cs=>cs
 |u=>[u]
def Mh:List AV→Bool
 |[]=>true
 |u::r=>u.one&&Mh r
def AV.flat:AV→Bool
 | .agg cs=>Mh cs
 |u=>u.one
theorem Mi:∀{l:List AV} {i:Nat} {u:AV},Mh l=true→l[i]?=some u→u.one=true
 |[],_,_,_,h=>by simp at h
 |c::r,0,u,hc,h=>by simp[Mh] at hc h;subst h;exact hc.1
 |c::r,i+1,u,hc,h=>by
  simp only[Mh,At] at hc
  exact Mi hc.2 (by simpa using h)
theorem RA.oneCell {B:Nat} {fp:Nat→Nat→Prop} {w:World} {bm:BM} {gt:Nat→Value} {u:AV} {v:Value} (h:RA B fp w bm gt u v) (ho:u.one=true):v.oneCell'=true:=by
 cases h with
 |d h=>cases h with
  |v x=>exact ho
  |sl=>rfl
  |cp=>rfl
  |fn=>rfl
 |ptr=>rfl
 |own h=>
  generalize gt _=v at h
  cases h;rfl
 |agg=>cases ho
 |tup=>cases ho
 |sem h1 _=>exact h1
 |cl=>rfl
 |pk=>rfl
theorem RA.cells {B:Nat} {fp:Nat→Nat→Prop} {w:World} {bm:BM} {gt:Nat→Value} {u:AV} {v:Value} (h:RA B fp w bm gt u v) (ho:u.flat=true):
 v.cells.toList.length=u.cells.length∧(∀(i:Nat) x y,u.cells[i]?=some x→v.cells.toList[i]?=some y→RA B fp w bm gt x y)∧(∀y∈v.cells.toList,y.oneCell'=true):=by
 have single:∀{u v},RA B fp w bm gt u v→u.one=true→u.cells=[u]→v.cells.toList=[v]→v.cells.toList.length=u.cells.length∧(∀(i:Nat) x y,u.cells[i]?=some x→v.cells.toList[i]?=some y→RA B fp w bm gt x y)∧(∀y∈v.cells.toList,y.oneCell'=true):=by
  intro u v h ho e1 e2
  rw[e1,e2]
  refine⟨rfl,fun i x y hx hy=> ?_,fun y hy=> ?_⟩
  ·cases i with
   |zero=>simp at hx hy;subst hx hy;exact h
   |succ i=>simp at hx
  ·simp at hy;subst hy;exact h.oneCell ho
 have one:∀{v:Value},v.oneCell'=true→v.cells.toList=[v]:=by
  intro v hv;cases v<;>first|rfl|cases hv
 cases u with
 |d x=>exact single h ho rfl (one (h.oneCell ho))
 |ptr k off=>exact single h ho rfl (one (h.oneCell ho))
 |own k n sz e cs=>exact single h ho rfl (one (h.oneCell ho))
 |sem φ=>exact single h ho rfl (one (h.oneCell ho))
 |cl f fs cs=>exact single h ho rfl (one (h.oneCell ho))
 |pk k off n sz=>exact single h ho rfl (one (h.oneCell ho))
 |tup xs=>cases ho
 |agg cs=>
  cases h with
  |agg vs h4 h7=>
   refine⟨by simpa[Value.cells,AV.cells] using h4,fun i x y hx hy=>h7 i x y hx (by simpa[Value.cells] using hy),fun y hy=> ?_⟩
   simp only[Value.cells] at hy
   obtain⟨i,hi,rfl⟩:=List.getElem_of_mem hy
   have hlt:i<cs.length:=by rw[←h4];simpa using hi
   have:=h7 i cs[i] vs[i] (Am hlt) (Am (by rw[h4];exact hlt))
   have ho':cs[i].one=true:=Mi (l:=cs) ho (Am hlt)
   exact this.oneCell ho'
def Fr {α:Type} (l:List α) (o:Nat) (m:List α):List α:=l.take o++m++l.drop (o+m.length)
theorem I4 {α:Type} (l:List α) (o:Nat) (m:List α) (h:o+m.length≤l.length):(Fr l o m).length=l.length:=by
 unfold Fr;simp;omega
theorem Ll {α:Type} {l:List α} {o:Nat} {m:List α} (h:o+m.length≤l.length) (i:Nat):(Fr l o m)[i]?=if i<o then l[i]? else if i<o+m.length then m[i-o]? else l[i]?:=by
 unfold Fr
 have h1:(l.take o).length=o:=by simp;omega
 rw[List.append_assoc]
 by_cases c1:i<o
 ·rw[if_pos c1,List.getElem?_append_left (by rw[h1];exact c1),List.getElem?_take,if_pos c1]
 ·rw[if_neg c1,List.getElem?_append_right (by rw[h1];omega),h1]
  by_cases c2:i<o+m.length
  ·rw[if_pos c2,List.getElem?_append_left (by omega)]
  ·rw[if_neg c2,List.getElem?_append_right (by omega),List.getElem?_drop]
   congr 1;omega
theorem Un {B:Nat} {fp:Nat→Nat→Prop} {w:World} {bm:BM} {gt:Nat→Value} {us ms:List AV} {vs ns:List Value} {o:Nat} (hl:us.length≤vs.length) (hm:ns.length=ms.length) (ho:o+ms.length≤us.length)
 (h1:∀(i:Nat) x y,us[i]?=some x→vs[i]?=some y→RA B fp w bm gt x y) (h2:∀(i:Nat) x y,ms[i]?=some x→ns[i]?=some y→RA B fp w bm gt x y) (i:Nat) (x:AV) (y:Value) (hx:(Fr us o ms)[i]?=some x) (hy:(Fr vs o ns)[i]?=some y):RA B fp w bm gt x y:=by
 rw[Ll ho] at hx
 rw[Ll (by omega),hm] at hy
 split at hx
 ·rename_i c;rw[if_pos c] at hy;exact h1 i x y hx hy
 ·rename_i c
  rw[if_neg c] at hy
  split at hx
  ·rename_i c2;rw[if_pos c2] at hy;exact h2 _ x y hx hy
  ·rename_i c2;rw[if_neg c2] at hy;exact h1 i x y hx hy
section
variable {P:Program} {C:Cx} {o:Oper} {σ:AS} {t:Nat}
theorem X8 {ty:TypeId} {d:TypeDesc} {z:Value} {sz by':Nat} {x:Operand} {k off:Nat} {cs:List AV} {u:AV} (ho:o.op= .load ty x) (hd:o.dst=some t) (ht:t<C.N) (hx:σ.eval x=some (.ptr k off)) (hk:lk k σ.bx=some cs)
 (hT:TyOk P ty d z sz by') (hD:Jm d=false) (hu:cs[off]?=some u):Bp P C o σ (σ.put t u):=
 Ba hd ht fun a w bm gt fp hg=>by
  have h:=hg.eval hx
  generalize hv:a.eval x=v at h
  cases h with
  |ptr=>
   obtain⟨cur,e,h1,h2,h3⟩:=(hg.bx k cs hk).obj
   have hlt:off<cur.size:=Nat.lt_of_lt_of_le (Aw.1 hu).1 h2
   refine⟨cur[off],?_,h3 off u _ hu (Array.getElem?_eq_getElem hlt)⟩
   have hc:w.cell? ⟨bm k,off,none⟩=some cur[off]:=by rw[cell_of_row w _ _ _ _ _ h1];exact Array.getElem?_eq_getElem hlt
   have hl:(loadVar ty ⟨bm k,off,none⟩).run P w= .ok cur[off] w:=by
    unfold loadVar
    rw[Sem.run_bind,hT.agg,hD]
    simp[Result.andThen,load,Sem.run,hc]
   simp only[execOp,ho,hv,Instr.loadAt,Instr.sureAddr,Sem.run_bind,Sem.run_pure,Result.andThen_ok,hl]
theorem Ho {ty:TypeId} {d:TypeDesc} {z:Value} {by':Nat} (w:World) (b off:Nat) (vs:List Value) (hT:TyOk P ty d z vs.length by') (hD:Jm d=true) (h:∀j v,vs[j]?=some v→w.cell? ⟨b,off+j,none⟩=some v):(loadVar ty ⟨b,off,none⟩).run P w= .ok (.agg vs.toArray) w:=by
 unfold loadVar
 rw[Sem.run_bind,hT.agg,hD]
 have:=run_loadCells_list (P:=P) w ⟨b,off,none⟩ vs (fun j v hv=>by rw[add_lit];exact h j v hv)
 simp[Result.andThen,hT.size,this,Sem.run_bind]
theorem jE {ty:TypeId} {d:TypeDesc} {z:Value} {sz by':Nat} {x:Operand} {k off:Nat} {cs us:List AV} (ho:o.op= .load ty x) (hd:o.dst=some t) (ht:t<C.N) (hx:σ.eval x=some (.ptr k off)) (hk:lk k σ.bx=some cs)
 (hT:TyOk P ty d z sz by') (hD:Jm d=true) (hu:(cs.drop off).take sz=us) (hl:us.length=sz):Bp P C o σ (σ.put t (.agg us)):=
 Ba hd ht fun a w bm gt fp hg=>by
  have h:=hg.eval hx
  generalize hv:a.eval x=v at h
  cases h with
  |ptr=>
   obtain⟨cur,e,h1,h2,h3⟩:=(hg.bx k cs hk).obj
   obtain⟨vs,hvs⟩:∃vs,(cur.toList.drop off).take sz=vs:=⟨_,rfl⟩
   have hvl:vs.length=us.length:=by
    have hq:((cs.drop off).take sz).length=sz:=by rw[hu];exact hl
    rw[←hvs,hl,Al,Az,Array.length_toList]
    rw[Al,Az] at hq
    omega
   have hvs':vs.length=sz:=by rw[hvl,hl]
   refine⟨.agg vs.toArray,?_,.agg vs hvl fun i x y hx hy=> ?_⟩
   ·subst hvs'
    have hlv:=Ho (P:=P) (ty:=ty) w (bm k) off vs hT hD fun j v hj=>by
     rw[cell_of_row w _ _ _ _ _ h1]
     rw[←hvs,List.getElem?_take] at hj
     split at hj
     ·rw[List.getElem?_drop] at hj;simpa using hj
     ·cases hj
    simp only[execOp,ho,hv,Instr.loadAt,Instr.sureAddr,Sem.run_bind,Sem.run_pure,Result.andThen_ok,hlv]
   ·rw[←hu,List.getElem?_take] at hx
    rw[←hvs,List.getElem?_take] at hy
    split at hx
    ·rename_i hlt
     rw[if_pos hlt,List.getElem?_drop] at hy
     rw[List.getElem?_drop] at hx
     exact h3 _ x y hx (by simpa using hy)
    ·cases hx
theorem jF {ty:TypeId} {d:TypeDesc} {z:Value} {sz by':Nat} {x:Operand} {tg:Bool} {ds:List D} {u:D} (ho:o.op= .load ty x) (hd:o.dst=some t) (ht:t<C.N) (hx:σ.eval x=some (.d (.cp tg ds)))
 (hT:TyOk P ty d z sz by') (hD:Jm d=false) (hu:ds[0]?=some u):Bp P C o σ (σ.put t (.d u)):=
 Ba hd ht fun a w bm gt fp hg=>by
  have h:=hg.eval hx
  generalize hv:a.eval x=v at h
  cases h with
  |d h=>cases h with
   |@cp _ _ b off us h4 h7 h8=>
    have hlt:0<us.length:=by rw[h4];exact(Aw.1 hu).1
    refine⟨us[0],?_,.d (h7 0 u _ hu (Am hlt))⟩
    have hc:=(h8 0 _ (Am hlt)).2.2
    have hl:(loadVar ty ⟨b,off,none⟩).run P w= .ok us[0] w:=by
     unfold loadVar
     rw[Sem.run_bind,hT.agg,hD]
     rw[Nat.add_zero] at hc
     simp[Result.andThen,load,Sem.run,hc]
    simp only[execOp,ho,hv,Instr.loadAt,Instr.sureAddr,Sem.run_bind,Sem.run_pure,Result.andThen_ok,hl]
theorem cY {ty:TypeId} {d:TypeDesc} {z:Value} {sz by':Nat} {x:Operand} {tg:Bool} {ds:List D} {us:List AV} (ho:o.op= .load ty x) (hd:o.dst=some t) (ht:t<C.N) (hx:σ.eval x=some (.d (.cp tg ds)))
 (hT:TyOk P ty d z sz by') (hD:Jm d=true) (hl:ds.length=sz) (hu:ds.map AV.d=us):Bp P C o σ (σ.put t (.agg us)):=
 Ba hd ht fun a w bm gt fp hg=>by
  have h:=hg.eval hx
  generalize hv:a.eval x=v at h
  cases h with
  |d h=>cases h with
   |@cp _ _ b off vs h4 h7 h8=>
    have hvs':vs.length=sz:=by rw[h4,hl]
    refine⟨.agg vs.toArray,?_,.agg vs (by rw[←hu,List.length_map,h4]) fun i x y hx hy=> ?_⟩
    ·subst hvs'
     have hlv:=Ho (P:=P) (ty:=ty) w b off vs hT hD fun j v hj=>(h8 j v hj).2.2
     simp only[execOp,ho,hv,Instr.loadAt,Instr.sureAddr,Sem.run_bind,Sem.run_pure,Result.andThen_ok,hlv]
    ·rw[←hu,List.getElem?_map,Option.map_eq_some_iff] at hx
     obtain⟨x0,hx0,rfl⟩:=hx
     exact .d (h7 i x0 y hx0 hy)
theorem Uo {ty:TypeId} {d:TypeDesc} {z:Value} {sz by':Nat} {x y:Operand} {k off:Nat} {cs:List AV} {u:AV} (ho:o.op= .store ty x y) (hd:o.dst=none) (hx:σ.eval x=some (.ptr k off)) (hk:lk k σ.bx=some cs) (hy:σ.eval y=some u)
 (hT:TyOk P ty d z sz by') (hf:u.flat=true) (hl:u.cells.length=sz) (hb:off+sz≤cs.length):Bp P C o σ {σ with bx:=(k,Fr cs off u.cells)::σ.bx}:=by
 rintro a w ⟨bm,gt,fp,hg⟩ K Q hK
 have h:=hg.eval hx
 have h':=hg.eval hy
 generalize hv:a.eval x=v at h
 generalize hv':a.eval y=v' at h'
 cases h with
 |ptr=>
  obtain⟨cur,e,h1,h2,h3⟩:=(hg.bx k cs hk).obj
  obtain⟨k1,k2,k3⟩:=h'.cells hf
  have hst:=run_storeCells_at P (bm k) off e v'.cells.toList 0 cur w h1 (by rw[Nat.add_zero,k1,hl];omega) k3
  simp only[Nat.add_zero] at hst
  have hrun:(execOp a.eval o).run P w= .ok .skip (w.setRow (bm k) (Fr cur.toList off v'.cells.toList).toArray):=by
   simp only[execOp,ho,hv,hv',Instr.storeAt,Instr.sureAddr,storeVar]
   have hsz:v'.cells.size=sz:=by rw[←Array.length_toList,k1,hl]
   have hcond:¬(v'.cells.size≠sz):=by rw[hsz];simp
   simp only[Sem.run_bind,Sem.run_pure,Result.andThen_ok,hT.size]
   rw[if_neg hcond]
   simp only[Result.andThen_ok,hst,Fr]
  unfold Oper.wp
  rw[hrun,Oper.upon_skip,hd]
  refine hK _ _ ⟨bm,gt,fp,hg.setBox hk h1 ?_ ?_⟩
  ·have q1:=I4 cs off u.cells (by rw[hl];exact hb)
   have q2:=I4 cur.toList off v'.cells.toList (by rw[k1,hl,Array.length_toList];omega)
   rw[List.size_toArray,q2,q1,Array.length_toList];exact h2
  ·intro i p q hp hq
   refine Un (by rw[Array.length_toList];exact h2) k1 (by rw[hl];exact hb) (fun i x y hx hy=>h3 i x y hx (by simpa using hy)) k2 i p q hp (by simpa using hq)
theorem jG {ty:TypeId} {d:TypeDesc} {z:Value} {sz by':Nat} {zs:List AV} {κ:Nat} (ho:o.op= .alloc ty) (hd:o.dst=some t) (ht:t<C.N) (hT:TyOk P ty d z sz by') (hz:z.cells.toList.map (fun x=>AV.d (.v x))=zs) (hc:σ.clean κ=true):
 Bp P C o σ {tm:=(t,.ptr κ 0)::σ.tm,bx:=(κ,zs)::σ.bx,tk:=σ.tk}:=by
 rintro a w ⟨bm,gt,fp,hg⟩ K Q hK
 have hrun:(execOp a.eval o).run P w= .ok (.value (.pointer (some ⟨w.heap.size,0,none⟩))) (w.alloc (.cells z.cells ty)):=by
  simp only[execOp,ho,Instr.alloc,newVar,newRow]
  simp[go_sem,hT.zero]
 unfold Oper.wp
 rw[hrun,Oper.upon_value,hd]
 have hcl:∀l:List Value,AV.cleans κ (l.map fun x=>AV.d (.v x))=true:=by
  intro l
  induction l with
  |nil=>rfl
  |cons x r ih=>simp[AV.cleans,AV.clean,ih]
 have h1:=hg.newBox (k:=κ) hc (cs:=zs) (cur:=z.cells) (e:=ty) (by rw[←hz];exact hcl _) (by rw[←hz];simp) (fun i u v hu hv=>by
  rw[←hz,List.getElem?_map] at hu
  simp only[Array.getElem?_toList,hv,Option.map_some,Option.some.injEq] at hu
  subst hu
  exact .d (.v _))
 have h2:=h1.put (t:=t) (u:= .ptr κ 0) ht .ptr
 rw[BM.set_same] at h2
 exact hK _ _ ⟨_,_,_,h2⟩
theorem wF {ty:TypeId} {d:TypeDesc} {z:Value} {sz by':Nat} {x:Operand} {u:AV} {κ:Nat} (ho:o.op= .box ty x) (hd:o.dst=some t) (ht:t<C.N) (hx:σ.eval x=some u) (_:TyOk P ty d z sz by') (hf:u.flat=true) (hc:σ.clean κ=true) (hcu:u.clean κ=true):
 Bp P C o σ {tm:=(t,.ptr κ 0)::σ.tm,bx:=(κ,u.cells)::σ.bx,tk:=σ.tk}:=by
 rintro a w ⟨bm,gt,fp,hg⟩ K Q hK
 obtain⟨k1,k2,k3⟩:=(hg.eval hx).cells hf
 have hrun:(execOp a.eval o).run P w= .ok (.value (.pointer (some ⟨w.heap.size,0,none⟩))) (w.alloc (.cells (a.eval x).cells ty)):=by
  simp only[execOp,ho,Instr.box,newVar,newRow]
  simp[go_sem]
 unfold Oper.wp
 rw[hrun,Oper.upon_value,hd]
 have hcl:AV.cleans κ u.cells=true:=by
  cases u<;>simp_all[AV.cells,AV.cleans,AV.clean]
 have h1:=hg.newBox (k:=κ) hc (cs:=u.cells) (cur:=(a.eval x).cells) (e:=ty) hcl (by rw[←k1];simp) (fun i p q hp hq=>k2 i p q hp (by simpa using hq))
 have h2:=h1.put (t:=t) (u:= .ptr κ 0) ht .ptr
 rw[BM.set_same] at h2
 exact hK _ _ ⟨_,_,_,h2⟩
structure FldOk (P:Program) (ty:TypeId) (i off sz:Nat) (ag:Bool):Prop where
 ex:∃(fs:Array Field) (f:Field) (d:TypeDesc) (z:Value) (by':Nat),P.underlying ty=some (.struct fs)∧fs[i]?=some f∧f.offset=off∧TyOk P f.type d z sz by'∧Jm d=ag
theorem FldOk.pos {ty:TypeId} {i off sz:Nat} {ag:Bool} (h:FldOk P ty i off sz ag) (h0:0<sz) (w:World) (b p:Nat):(Instr.fieldAt ty (.pointer (some ⟨b,p,none⟩)) i).run P w= .ok (.pointer (some ⟨b,p+off,none⟩)) w:=by
 obtain⟨fs,f,d,z,by',h1,h2,h3,h4,h5⟩:=h.ex
 subst h3
 have:sz≠0:=by omega
 simp[Instr.fieldAt,Instr.sureAddr,fieldPlace,go_sem,run_underlying h1,h2,h4.size,this,add_lit]
theorem Up {ty:TypeId} {i off sz:Nat} {ag:Bool} {x:Operand} {k p:Nat} (ho:o.op= .fieldAddr ty x i) (hd:o.dst=some t) (ht:t<C.N) (hF:FldOk P ty i off sz ag) (h0:0<sz) (hx:σ.eval x=some (.ptr k p)):Bp P C o σ (σ.put t (.ptr k (p+off))):=
 Ba hd ht fun a w bm gt fp hg=>by
  have h:=hg.eval hx
  generalize hv:a.eval x=v at h
  cases h with
  |ptr=>
   refine⟨_,?_,.ptr⟩
   simp only[execOp,ho,hv]
   rw[Sem.run_bind,hF.pos h0]
   rfl
theorem S7 {ty:TypeId} {i off sz:Nat} {ag tg:Bool} {x:Operand} {ds ds':List D} (ho:o.op= .fieldAddr ty x i) (hd:o.dst=some t) (ht:t<C.N) (hF:FldOk P ty i off sz ag) (h0:0<sz) (hx:σ.eval x=some (.d (.cp tg ds))) (hds:(ds.drop off).take sz=ds'):Bp P C o σ (σ.put t (.d (.cp tg ds'))):=
 Ba hd ht fun a w bm gt fp hg=>by
  have h:=hg.eval hx
  generalize hv:a.eval x=v at h
  cases h with
  |d h=>cases h with
   |@cp _ _ b p us h4 h7 h8=>
    refine⟨.pointer (some ⟨b,p+off,none⟩),?_,.d (.cp ((us.drop off).take sz) (by rw[←hds];simp[h4]) (fun j q r hq hr=> ?_) fun j r hr=> ?_)⟩
    ·simp only[execOp,ho,hv]
     rw[Sem.run_bind,hF.pos h0]
     rfl
    ·rw[←hds,List.getElem?_take] at hq
     rw[List.getElem?_take] at hr
     split at hq
     ·rename_i hlt
      rw[if_pos hlt,List.getElem?_drop] at hr
      rw[List.getElem?_drop] at hq
      exact h7 _ q r hq hr
     ·cases hq
    ·rw[List.getElem?_take] at hr
     split at hr
     ·rw[List.getElem?_drop] at hr
      have:=h8 _ r hr
      rw[Nat.add_assoc]
      exact this
     ·cases hr
theorem jH {ty:TypeId} {i off sz:Nat} {x:Operand} {us:List AV} {u:AV} (ho:o.op= .field ty x i) (hd:o.dst=some t) (ht:t<C.N) (hF:FldOk P ty i off sz false) (hx:σ.eval x=some (.agg us)) (hu:us[off]?=some u):Bp P C o σ (σ.put t u):=
 Ba hd ht fun a w bm gt fp hg=>by
  have h:=hg.eval hx
  generalize hv:a.eval x=v at h
  cases h with
  |agg vs h4 h7=>
   obtain⟨fs,f,d,z,by',h1,h2,h3,h5,h6⟩:=hF.ex
   have hlt:off<vs.length:=by rw[h4];exact(Aw.1 hu).1
   refine⟨vs[off],?_,h7 off u _ hu (Am hlt)⟩
   subst h3
   simp only[execOp,ho,hv,Instr.field,part,asAgg]
   simp[go_sem,run_underlying h1,h2,h5.agg,h6,hlt]
theorem cZ {ty:TypeId} {i off sz:Nat} {x:Operand} {us us':List AV} (ho:o.op= .field ty x i) (hd:o.dst=some t) (ht:t<C.N) (hF:FldOk P ty i off sz true) (hx:σ.eval x=some (.agg us)) (hu:(us.drop off).take sz=us'):Bp P C o σ (σ.put t (.agg us')):=
 Ba hd ht fun a w bm gt fp hg=>by
  have h:=hg.eval hx
  generalize hv:a.eval x=v at h
  cases h with
  |agg vs h4 h7=>
   obtain⟨fs,f,d,z,by',h1,h2,h3,h5,h6⟩:=hF.ex
   refine⟨.agg ((vs.drop off).take sz).toArray,?_,.agg _ (by rw[←hu];simp[h4]) fun j q r hq hr=> ?_⟩
   ·subst h3
    simp only[execOp,ho,hv,Instr.field,part,asAgg]
    simp[go_sem,run_underlying h1,h2,h5.agg,h6,h5.size]
   ·rw[←hu,List.getElem?_take] at hq
    rw[List.getElem?_take] at hr
    split at hq
    ·rename_i hlt
     rw[if_pos hlt,List.getElem?_drop] at hr
     rw[List.getElem?_drop] at hq
     exact h7 _ q r hq hr
    ·cases hq
end
mutual
theorem AV.share_clean (k:Nat):∀u:AV,u.clean k=true→u.share k=u
 | .d _,_=>rfl
 | .ptr _ _,_=>rfl
 | .own j n sz e cs,h=>by
   simp only[AV.clean] at h
   unfold AV.share
   cases hb:Nat.beq j k with
   |true=>rw[hb] at h;cases h
   |false=>rfl
 | .agg cs,h=>by rw[AV.share,AV.shares_clean k cs h]
 | .tup cs,h=>by rw[AV.share,AV.shares_clean k cs h]
 | .sem _,_=>rfl
 | .cl f fs cs,h=>by
   simp only[AV.clean,At] at h
   rw[AV.share,AV.shares_clean k fs h.1,AV.shares_clean k cs h.2]
 | .pk _ _ _ _,_=>rfl
theorem AV.shares_clean (k:Nat):∀l:List AV,AV.cleans k l=true→AV.shares k l=l
 |[],_=>rfl
 |c::r,h=>by
  simp only[AV.cleans,At] at h
  rw[AV.shares,AV.share_clean k c h.1,AV.shares_clean k r h.2]
end
theorem Np {k:Nat}:∀{l:List (Nat×AV)},clT k l=true→shT k l=l
 |[],_=>rfl
 |(j,c)::r,h=>by
  simp only[clT,At] at h
  rw[shT,AV.share_clean k c h.1,Np h.2]
theorem Ks {k:Nat}:∀{l:List (Nat×List AV)},clB k l=true→shB k l=l
 |[],_=>rfl
 |(j,c)::r,h=>by
  simp only[clB,At] at h
  rw[shB,AV.shares_clean k c h.1,Ks h.2]
def H6 (gt:Nat→Value) (k:Nat) (v:Value):Nat→Value:=fun j=>if j=k then v else gt j
theorem Cb (gt:Nat→Value) (k:Nat) (v:Value):H6 gt k v k=v:=by simp[H6]
theorem Et (gt:Nat→Value) (k:Nat) (v:Value) {j:Nat} (h:j≠k):H6 gt k v j=gt j:=by simp[H6,h]
theorem GG.adopt {C:Cx} {bm:BM} {gt:Nat→Value} {fp:Nat→Nat→Prop} {σ:AS} {a:Act} {w:World} (h:GG C bm gt fp σ a w) {k:Nat} (hc:σ.clean k=true) (sz:Nat) (e:TypeId):
 GG C bm (H6 gt k (.slice none 0 0)) fp {σ with tk:=(k,0,sz,e)::σ.tk} a w:=by
 simp only[AS.clean,At] at hc
 have turn:∀{u v},RA C.W.heap.size fp w bm gt u v→u.clean k=true→RA C.W.heap.size fp w bm (H6 gt k (.slice none 0 0)) u v:=fun hr hcl=>hr.turn (fun _ _=>rfl) (fun _ _ x=>x) (fun j hj=>Et _ _ _ hj) hcl
 have old:∀j (x:Nat×Nat×TypeId),j≠k→lk j ((k,0,sz,e)::σ.tk)=some x→lk j σ.tk=some x:=fun j x hj hx=>by rwa[Cf _ _ (fun e=>hj e.symm)] at hx
 refine{sz:=h.sz,nN:=h.nN,gd:=h.gd,za:=h.za,zb:=h.zb,zf:=h.zf,ztk:=fun j x hj g hg o=> ?_,df:=h.df,tm:=fun t u hu=> ?_,bx:=fun j c hj=> ?_,bxi:=h.bxi,tk:=fun j n s e' hj=> ?_,tki:=fun j j' x x' hj hj' hn he=> ?_,tkb:=fun j j' x c hj hj'=> ?_,fpb:=h.fpb,fp0:=h.fp0,fpB:=h.fpB,bel:=h.bel}
 ·by_cases ej:j=k
  ·subst ej;rw[Cb] at hg;cases hg
  ·rw[Et _ _ _ ej] at hg;exact h.ztk j x (old j x ej hj) g hg o
 ·obtain⟨v,h1,h2⟩:=h.tm t u hu
  exact⟨v,h1,turn h2 (Zw hc.1 hu)⟩
 ·have hy:=h.bx j c hj
  obtain⟨cur2,e2,h1,h2,h3⟩:=hy.obj
  exact⟨hy.own,hy.un,cur2,e2,h1,h2,fun i u v hu hv=>turn (h3 i u v hu hv) (AV.cleans_get (Zx hc.2 hj) hu)⟩
 ·by_cases ej:j=k
  ·subst ej
   simp only[Bs,Option.some.injEq,Prod.mk.injEq] at hj
   obtain⟨rfl,rfl,rfl⟩:=hj
   rw[Cb]
   exact⟨⟨[],World.ownsRow_nil _ _ _ _⟩,fun g hg=>by cases hg⟩
  ·rw[Et _ _ _ ej]
   exact h.tk j n s e' (old j _ ej hj)
 ·have nk:∀i,(H6 gt k (.slice none 0 0) i).ownBlock≠none→i≠k:=fun i hi e=>by subst e;rw[Cb] at hi;exact hi rfl
  have e1:=nk j hn
  have e2:=nk j' (he▸hn)
  rw[Et _ _ _ e1] at hn he
  rw[Et _ _ _ e2] at he
  exact h.tki j j' x x' (old j _ e1 hj) (old j' _ e2 hj') hn he
 ·by_cases ej:j=k
  ·subst ej;rw[Cb];intro he;cases he
  ·rw[Et _ _ _ ej];exact h.tkb j j' x c (old j _ ej hj) hj'
theorem GG.retok {C:Cx} {bm:BM} {gt:Nat→Value} {fp:Nat→Nat→Prop} {σ:AS} {a:Act} {w w':World} (h:GG C bm gt fp σ a w) {k n sz n':Nat} {e:TypeId} {v':Value} (hk:lk k σ.tk=some (n,sz,e)) (hs:w.heap.size≤w'.heap.size) (hbel:Below C.W.heap.size C.W w')
 (hblk:∀j,j<w.heap.size→(gt k).ownBlock≠some j→w'.heap[j]?=w.heap[j]?) (hcl:∀g o,(gt k).ownBlock=some g→o<n*sz→w'.cell? ⟨g,o,none⟩=w.cell? ⟨g,o,none⟩)
 (hown:∃xs,w'.ownsRow C.W.heap.size e sz v' n' xs) (hv:∀g,v'.ownBlock=some g→((gt k).ownBlock=some g∧n*sz≤n'*sz)∨w.heap.size≤g):
 GG C bm (H6 gt k v') (fun b o=>fp b o∨(v'.ownBlock=some b∧o<n'*sz)) ⟨shT k σ.tm,shB k σ.bx,(k,n',sz,e)::σ.tk⟩ a w':=by
 have hfc:∀b o,fp b o→w'.cell? ⟨b,o,none⟩=w.cell? ⟨b,o,none⟩:=fun b o hf=>by
  by_cases hb:(gt k).ownBlock=some b
  ·refine hcl b o hb ?_
   rcases Nat.lt_or_ge o (n*sz) with h1|h1
   ·exact h1
   ·exact absurd hf ((h.tk k n sz e hk).tail b hb o h1)
  ·exact World.cell?_of_block (hblk b (h.fpb b o hf).2 hb)
 have hnc:NC w w':=by
  obtain⟨xs,hxs⟩:=(h.tk k n sz e hk).own
  rcases hxs.2 with⟨hnil,_⟩|⟨g,cap,cur,e1,e2,e3,_⟩
  ·exact fun b ob h1 _=>(hblk b (Array.getElem?_eq_some_iff.1 h1).1 (by rw[hnil];intro hh;cases hh)).trans h1
  ·exact NC.one e3 fun j hj hne=>hblk j hj (by rw[e1];intro hh;simp only[Value.ownBlock,Option.some.injEq] at hh;exact hne hh.symm)
 have turn:∀{u v},RA C.W.heap.size fp w bm gt u v→RA C.W.heap.size (fun b o=>fp b o∨(v'.ownBlock=some b∧o<n'*sz)) w' bm (H6 gt k v') (u.share k) v:=fun hr=>
  (hr.keep h.zf hnc (Nat.le_refl _) (fun _ _ x=> .inl x) hfc).share fun j hj=>Et _ _ _ hj
 have old:∀j (x:Nat×Nat×TypeId),j≠k→lk j ((k,n',sz,e)::σ.tk)=some x→lk j σ.tk=some x:=fun j x hj hx=>by rwa[Cf _ _ (fun e=>hj e.symm)] at hx
 have tlt:∀j (x:Nat×Nat×TypeId),lk j σ.tk=some x→∀g,(gt j).ownBlock=some g→C.W.heap.size≤g∧g<w.heap.size:=fun j x hj g hg=>by
  obtain⟨xs,hxs⟩:=(h.tk j x.1 x.2.1 x.2.2 hj).own
  exact hxs.lt g hg
 refine{sz:=h.sz,nN:=h.nN,gd:=h.gd,za:=h.za,zb:=h.zb,zf:=fun b o hz=> .inl (h.zf b o hz),ztk:=fun j x hj g hg o hz=> ?_,df:=h.df,tm:=fun t u hu=> ?_,bx:=fun j c hj=> ?_,bxi:=fun j j' c c' hj hj' he=> ?_,tk:=fun j m s e' hj=> ?_,tki:=fun j j' x x' hj hj' hn he=> ?_,tkb:=fun j j' x c hj hj'=> ?_,fpb:=fun b o hf=> ?_,fp0:=fun b o hf=> .inl (h.fp0 b o hf),fpB:=h.fpB,bel:=hbel}
 ·by_cases ej:j=k
  ·subst ej
   rw[Cb] at hg
   rcases hv g hg with⟨h1,_⟩|h1
   ·exact h.ztk j _ hk g h1 o hz
   ·have:=(h.fpb g o (h.zf g o hz)).2;omega
  ·rw[Et _ _ _ ej] at hg
   exact h.ztk j x (old j x ej hj) g hg o hz
 ·rw[jB,Option.map_eq_some_iff] at hu
  obtain⟨u0,hu0,rfl⟩:=hu
  obtain⟨v,h1,h2⟩:=h.tm t u0 hu0
  exact⟨v,h1,turn h2⟩
 ·rw[Ul,Option.map_eq_some_iff] at hj
  obtain⟨c0,hc0,rfl⟩:=hj
  have hy:=h.bx j c0 hc0
  obtain⟨cur2,e2,h1,h2,h3⟩:=hy.obj
  refine⟨hy.own,fun o hf=> ?_,cur2,e2,(hblk _ hy.lt (h.tkb k j _ c0 hk hc0)).trans h1,by rw[AV.shares_eq,List.length_map];exact h2,fun i u v hu hv=> ?_⟩
  ·rcases hf with hf|⟨hf,_⟩
   ·exact hy.un o hf
   ·rcases hv _ hf with⟨hf,_⟩|hf
    ·exact h.tkb k j _ c0 hk hc0 hf
    ·have:=hy.lt;omega
  ·rw[AV.shares_eq,List.getElem?_map,Option.map_eq_some_iff] at hu
   obtain⟨u0,hu0,rfl⟩:=hu
   exact turn (h3 i u0 v hu0 hv)
 ·rw[Ul,Option.map_eq_some_iff] at hj hj'
  obtain⟨c0,hc0,rfl⟩:=hj
  obtain⟨c1,hc1,rfl⟩:=hj'
  exact h.bxi j j' c0 c1 hc0 hc1 he
 ·by_cases ej:j=k
  ·subst ej
   simp only[Bs,Option.some.injEq,Prod.mk.injEq] at hj
   obtain⟨rfl,rfl,rfl⟩:=hj
   rw[Cb]
   refine⟨hown,fun g hg o ho hf=> ?_⟩
   rcases hf with hf|⟨_,hf⟩
   ·rcases hv g hg with⟨h1,h2⟩|h1
    ·exact(h.tk j n sz e hk).tail g h1 o (by omega) hf
    ·have:=(h.fpb g o hf).2;omega
   ·omega
  ·rw[Et _ _ _ ej]
   have hj':=old j _ ej hj
   obtain⟨xs,hxs⟩:=(h.tk j m s e' hj').own
   have hne:∀g,(gt j).ownBlock=some g→(gt k).ownBlock≠some g:=fun g hg hg'=>ej (h.tki j k _ _ hj' hk (by rw[hg];simp) (by rw[hg,hg']))
   refine⟨⟨xs,hxs.1,?_⟩,fun g hg o ho hf=> ?_⟩
   ·rcases hxs.2 with hnil|⟨g,cap,cur,h1,h2,h3,h4⟩
    ·exact .inl hnil
    ·refine .inr ⟨g,cap,cur,h1,h2,?_,h4⟩
     have hg:(gt j).ownBlock=some g:=by rw[h1];rfl
     rw[hblk g (tlt j _ hj' g hg).2 (hne g hg)];exact h3
   ·rcases hf with hf|⟨hf,_⟩
    ·exact(h.tk j m s e' hj').tail g hg o ho hf
    ·rcases hv g hf with⟨h1,_⟩|h1
     ·exact hne g hg h1
     ·have:=(tlt j _ hj' g hg).2;omega
 ·have cross:∀i (y:Nat×Nat×TypeId),i≠k→lk i σ.tk=some y→∀g,v'.ownBlock=some g→(gt i).ownBlock≠some g:=fun i y hi hy g hg hg'=>by
   rcases hv g hg with⟨h1,_⟩|h1
   ·exact hi (h.tki i k _ _ hy hk (by rw[hg'];simp) (by rw[hg',h1]))
   ·have:=(tlt i _ hy g hg').2;omega
  by_cases e1:j=k
  ·by_cases e2:j'=k
   ·rw[e1,e2]
   ·exfalso
    rw[e1,Cb] at hn he
    rw[Et _ _ _ e2] at he
    cases hg:v'.ownBlock with
    |none=>exact hn hg
    |some g=>exact cross j' _ e2 (old j' _ e2 hj') g hg (by rw[←he,hg])
  ·by_cases e2:j'=k
   ·exfalso
    rw[Et _ _ _ e1] at hn he
    rw[e2,Cb] at he
    cases hg:(gt j).ownBlock with
    |none=>exact hn hg
    |some g=>exact cross j _ e1 (old j _ e1 hj) g (by rw[←he,hg]) hg
   ·rw[Et _ _ _ e1] at hn he
    rw[Et _ _ _ e2] at he
    exact h.tki j j' x x' (old j _ e1 hj) (old j' _ e2 hj') hn he
 ·rw[Ul,Option.map_eq_some_iff] at hj'
  obtain⟨c0,hc0,rfl⟩:=hj'
  by_cases ej:j=k
  ·rw[ej,Cb]
   intro hg
   rcases hv _ hg with⟨h1,_⟩|h1
   ·exact h.tkb k j' _ c0 hk hc0 h1
   ·have:=(h.bx j' c0 hc0).lt;omega
  ·rw[Et _ _ _ ej];exact h.tkb j j' x c0 (old j _ ej hj) hc0
 ·rcases hf with hf|⟨hf,_⟩
  ·exact⟨(h.fpb b o hf).1,Nat.lt_of_lt_of_le (h.fpb b o hf).2 hs⟩
  ·obtain⟨xs,hxs⟩:=hown
   exact⟨.inr (hxs.lt b hf).1,(hxs.lt b hf).2⟩
def AV.asSl (sz:Nat):AV→Option (Nat×List D)
 | .d (.sl _ n s cs)=>bif Nat.beq s sz then some (n,cs) else none
 | .own _ n s _ cs=>bif Nat.beq s sz then some (n,cs) else none
 | .d (.v (.slice none 0 0))=>some (0,[])
 |_=>none
theorem Rd.untag {B:Nat} {fp:Nat→Nat→Prop} {w:World} {t:Bool} {n sz:Nat} {cs:List D} {v:Value} (h:Rd B fp w (.sl t n sz cs) v):Rd B fp w (.sl false n sz cs) v:=by
 cases h with
 |sl us h1 h2 h3 h4 h5 h6 h7 h8=>
  refine .sl us h1 h2 h3 h4 h5 h6 h7 fun i u hu=> ?_
  obtain⟨b,o,e1,e2,_,e4⟩:=h8 i u hu
  exact⟨b,o,e1,e2,fun ht=>(by cases ht),e4⟩
theorem Rd.len {B:Nat} {fp:Nat→Nat→Prop} {w:World} {t:Bool} {n sz:Nat} {cs:List D} {v:Value} (h:Rd B fp w (.sl t n sz cs) v):cs.length=n*sz:=by
 cases h with|sl us h1 h2 h3 h4 h5 h6 h7 h8=>exact h3
theorem Gq {B:Nat} {fp:Nat→Nat→Prop} {w:World} (t:Bool) (sz:Nat):Rd B fp w (.sl t 0 sz []) (.slice none 0 0):=
 .sl [] (Nat.le_refl _) (by simp) (by simp) rfl (fun _=>rfl) (fun u hu=>by simp at hu) (fun i d u hd=>by simp at hd) (fun i u hu=>by simp at hu)
theorem RA.asSl {B:Nat} {fp:Nat→Nat→Prop} {w:World} {bm:BM} {gt:Nat→Value} {sz n:Nat} {cs:List D} {u:AV} {v:Value} (h:RA B fp w bm gt u v) (hs:u.asSl sz=some (n,cs)):Rd B fp w (.sl false n sz cs) v:=by
 unfold AV.asSl at hs
 split at hs
 ·rename_i t n' s cs'
  cases hb:Nat.beq s sz with
  |false=>rw[hb] at hs;cases hs
  |true=>
   rw[hb] at hs
   simp only[cond_true,Option.some.injEq,Prod.mk.injEq] at hs
   obtain⟨rfl,rfl⟩:=hs
   obtain rfl:=Nat.eq_of_beq_eq_true hb
   cases h with|d h=>exact h.untag
 ·rename_i k n' s e cs'
  cases hb:Nat.beq s sz with
  |false=>rw[hb] at hs;cases hs
  |true=>
   rw[hb] at hs
   simp only[cond_true,Option.some.injEq,Prod.mk.injEq] at hs
   obtain⟨rfl,rfl⟩:=hs
   obtain rfl:=Nat.eq_of_beq_eq_true hb
   cases h with|own h=>exact h.untag
 ·cases hs
  rw[h.val]
  exact Gq false sz
 ·cases hs
theorem X9 {B:Nat} {fp:Nat→Nat→Prop} {w:World} {g cap n sz:Nat} {e:TypeId} {cs:List D} {cur:Array Value} (hB:B≤g) (hobj:w.heap[g]?=some (.cells cur e (0,0))) (hn:n≤cap) (hm:cap≤maxLen) (hsz:cur.size=cap*sz) (hl:cs.length=n*sz)
 (hf:∀o,o<n*sz→fp g o) (hr:∀(i:Nat) d v,cs[i]?=some d→cur[i]?=some v→Rd B fp w d v) (h1:∀(i:Nat) v,i<n*sz→cur[i]?=some v→v.oneCell'=true):Rd B fp w (.sl true n sz cs) (.slice (some ⟨g,0,none⟩) n cap):=by
 have hle:n*sz≤cap*sz:=Nat.mul_le_mul_right _ hn
 refine .sl (cur.toList.take (n*sz)) hn hm hl (by rw[Al,Array.length_toList,hsz,Nat.min_eq_left hle,hl]) (fun h=>by cases h) (fun u hu=> ?_) (fun i d u hd hu=> ?_) fun i u hu=> ?_
 ·obtain⟨i,hi,rfl⟩:=List.getElem_of_mem hu
  have hi':i<n*sz:=by simp only[Al] at hi;omega
  refine h1 i _ hi' ?_
  rw[List.getElem_take,←Array.getElem?_toList]
  exact Am _
 ·rw[List.getElem?_take] at hu
  split at hu
  ·exact hr i d u hd (by simpa using hu)
  ·cases hu
 ·rw[List.getElem?_take] at hu
  split at hu
  ·rename_i hlt
   exact⟨g,0,rfl,by rw[Nat.zero_add];exact hf i hlt,fun _=>hB,by rw[Nat.zero_add,cell_of_row w g i cur e (0,0) hobj];simpa using hu⟩
  ·cases hu
theorem GG.append {P:Program} {C:Cx} {bm:BM} {gt:Nat→Value} {fp:Nat→Nat→Prop} {σ:AS} {a:Act} {w:World} (h:GG C bm gt fp σ a w) {k n sz m by':Nat} {st ty e:TypeId} {d:TypeDesc} {z vx:Value} {tg:Bool} {cs ds:List D}
 (hk:lk k σ.tk=some (n,sz,e)) (hcs:Rd C.W.heap.size fp w (.sl true n sz cs) (gt k)) (hx:Rd C.W.heap.size fp w (.sl tg m sz ds) vx) (hT:P.underlying st=some (.slice e)) (hE:TyOk P e d z sz by') (hz:z.cells.size=sz) (hpos:0<sz)
 (h63:n+m≤1000000000) (hby:by'≤1000):
 ∃v' w' gt' fp',(Builtin.append_ #[st,st] ty #[gt k,vx]).run P w= .ok v' w'∧GG C bm gt' fp' ⟨shT k σ.tm,shB k σ.bx,(k,n+m,sz,e)::σ.tk⟩ a w'∧RA C.W.heap.size fp' w' bm gt' (.own k (n+m) sz e (cs++ds)) v':=by
 obtain⟨i,hi,hz0,hz1,hz2⟩:=hE.inf
 obtain⟨xs,hown⟩:=(h.tk k n sz e hk).own
 have hbytes:(n+m)*by'≤140737488355328:=Nat.le_trans (Nat.mul_le_mul h63 hby) (by omega)
 have hmax:n+m≤maxLen:=by unfold maxLen;omega
 cases hx with
 |@sl _ _ _ _ sa sc us s1 s2 s3 s4 s5 s6 s7 s8=>
 have fin:∀(v':Value) (w':World),(Builtin.append_ #[st,st] ty #[gt k,.slice sa m sc]).run P w= .ok v' w'→w.heap.size≤w'.heap.size→Below C.W.heap.size w w'→(∀j,j<w.heap.size→(gt k).ownBlock≠some j→w'.heap[j]?=w.heap[j]?)→(∀g o,(gt k).ownBlock=some g→o<n*sz→w'.cell? ⟨g,o,none⟩=w.cell? ⟨g,o,none⟩)→
  w'.ownsRow C.W.heap.size e sz v' (n+m) (xs++us)→(∀g,v'.ownBlock=some g→((gt k).ownBlock=some g)∨w.heap.size≤g)→
  ∃v' w' gt' fp',(Builtin.append_ #[st,st] ty #[gt k,.slice sa m sc]).run P w= .ok v' w'∧GG C bm gt' fp' ⟨shT k σ.tm,shB k σ.bx,(k,n+m,sz,e)::σ.tk⟩ a w'∧RA C.W.heap.size fp' w' bm gt' (.own k (n+m) sz e (cs++ds)) v':=by
  intro v' w' hrun hs hbel hblk hcl ho hv
  have hmul:n*sz≤(n+m)*sz:=Nat.mul_le_mul_right _ (by omega)
  have hG:=h.retok (k:=k) (n':=n+m) (v':=v') hk hs (h.bel.trans hbel) hblk hcl ⟨_,ho⟩ (fun g hg=>(hv g hg).imp (fun x=>⟨x,hmul⟩) id)
  refine⟨v',w',_,_,hrun,hG,?_⟩
  have hup:H6 gt k v' k=v':=Cb _ _ _
  conv=>rhs;rw[←hup]
  refine .own ?_
  rw[hup]
  have hfc:∀b o,fp b o→w'.cell? ⟨b,o,none⟩=w.cell? ⟨b,o,none⟩:=fun b o hf=>by
   by_cases hb:(gt k).ownBlock=some b
   ·refine hcl b o hb ?_
    rcases Nat.lt_or_ge o (n*sz) with h1|h1
    ·exact h1
    ·exact absurd hf ((h.tk k n sz e hk).tail b hb o h1)
   ·exact World.cell?_of_block (hblk b (h.fpb b o hf).2 hb)
  have keep:∀{d v},Rd C.W.heap.size fp w d v→Rd C.W.heap.size (fun b o=>fp b o∨(v'.ownBlock=some b∧o<(n+m)*sz)) w' d v:=fun hr=>hr.keep (Nat.le_refl _) (fun _ _ x=> .inl x) hfc
  have hold:∀(j:Nat) d u,cs[j]?=some d→xs[j]?=some u→Rd C.W.heap.size fp w d u∧u.oneCell'=true:=by
   intro j d u hd hu
   rcases hown.2 with⟨hnil,h0⟩|⟨g,cap,cur,e1,e2,e3,e4,e5,e6,e7⟩
   ·have:xs.length=0:=by rw[hown.1,h0,Nat.zero_mul]
    rw[List.eq_nil_of_length_eq_zero this] at hu
    simp at hu
   ·rw[e1] at hcs
    cases hcs with
    |sl vs c1 c2 c3 c4 c5 c6 c7 c8=>
     have hlt:j<vs.length:=by rw[c4];exact(Aw.1 hd).1
     have hvj:=Am hlt
     obtain⟨b,o,q1,_,_,q4⟩:=c8 j _ hvj
     simp only[Option.some.injEq,Addr.mk.injEq,and_true] at q1
     obtain⟨rfl,rfl⟩:=q1
     have hcj:=hown.cells (g:=g) (by rw[e1];rfl) j u hu
     rw[add_lit] at hcj
     rw[q4] at hcj
     cases hcj
     exact⟨c7 j d _ hd hvj,c6 _ (List.getElem_mem hlt)⟩
  have hcsl:cs.length=n*sz:=hcs.len
  have hxl:xs.length=cs.length:=by rw[hown.1,hcsl]
  have hall:∀(j:Nat) d u,(cs++ds)[j]?=some d→(xs++us)[j]?=some u→Rd C.W.heap.size fp w d u∧u.oneCell'=true:=by
   intro j d u hd hu
   by_cases hj:j<cs.length
   ·rw[List.getElem?_append_left hj] at hd
    rw[List.getElem?_append_left (by omega)] at hu
    exact hold j d u hd hu
   ·rw[List.getElem?_append_right (by omega)] at hd
    rw[List.getElem?_append_right (by omega),hxl] at hu
    exact⟨s7 _ d u hd hu,s6 u (A8 hu)⟩
  have hlen:(cs++ds).length=(n+m)*sz:=by rw[Ap,hcsl,s3,Nat.add_mul]
  rcases ho.2 with⟨hnil,h0⟩|⟨g,cap,cur,e1,e2,e3,e4,e5,e6,e7⟩
  ·rw[hnil,h0]
   have:cs++ds=[]:=List.eq_nil_of_length_eq_zero (by rw[hlen,h0,Nat.zero_mul])
   rw[this]
   exact Gq _ _
  ·subst e1
   have hget:∀(j:Nat) u,j<(n+m)*sz→cur[j]?=some u→(xs++us)[j]?=some u:=fun j u hj hu=>by
    rw[←e7,List.getElem?_take,if_pos hj];simpa using hu
   refine X9 e2 e3 e4 e5 e6 hlen (fun o ho=> .inr ⟨rfl,ho⟩) (fun j d u hd hu=> ?_) (fun j u hj hu=> ?_)
   ·exact keep (hall j d u hd (hget j u (by rw[←hlen];exact(Aw.1 hd).1) hu)).1
   ·exact(hall j _ u (Am (by rw[hlen];exact hj)) (hget j u hj hu)).2
 have hbs:C.W.heap.size≤w.heap.size:=h.bel.size
 cases sa with
 |none=>
  have hc0:=s5 rfl
  have hm:m=0:=by omega
  subst hm;subst hc0
  have hus:us=[]:=List.eq_nil_of_length_eq_zero (by rw[s4,s3,Nat.zero_mul])
  subst hus
  exact fin (gt k) w (run_append_owned_none (P:=P) (w:=w) _ st ty e i sz hT hi (gt k) n xs hown) (Nat.le_refl _) (Below.refl _ _) (fun _ _ _=>rfl) (fun _ _ _ _=>rfl) (by simpa using hown) (fun g hg=> .inl hg)
 |some ad=>
  have hul:us.length=m*i.size:=by rw[s4,s3,hz1]
  have hnews:∀j u,us[j]?=some u→w.cell? (ad.add j)=some u:=by
   intro j u hu
   obtain⟨b,o',e1,_,_,e4⟩:=s8 j u hu
   simp only[Option.some.injEq] at e1
   subst e1
   rw[add_lit];exact e4
  obtain⟨v1,w1,hr1,ho1,hg1,hnil1⟩:=run_append_own (P:=P) w C.W.heap.size st ty e i z sz by' hT hi hz0 hz1 hz2 hz hpos (gt k) n xs hown ad m sc us (by rw[hul,hz1]) hnews s6 hmax hbytes hbs
  have hbel1:Below C.W.heap.size w w1:=((Below.refl C.W.heap.size w).grown hg1 hbs (fun j e=>(hown.lt j e).1))
  refine fin v1 w1 hr1 hg1.size hbel1 (fun j hj hne=>hg1.block j hj (fun e=>hne e.symm)) (fun g o hg hlt=> ?_) ho1 (fun g hg=> ?_)
  ·rcases hown.2 with⟨hnil,h0⟩|⟨g',cap,cur,e1,e2,e3,e4,e5,e6,e7⟩
   ·rw[hnil] at hg;cases hg
   ·rw[e1] at hg
    simp only[Value.ownBlock,Option.some.injEq] at hg
    subst hg
    by_cases hroom:n+m≤cap
    ·have hfit:n*i.size+us.length≤cur.size:=by rw[hul,hz1,e6,←Nat.add_mul];exact Nat.mul_le_mul_right _ hroom
     have hr2:=run_append_room (P:=P) w st ty e i hT hi g' n cap cur e3 ad m sc us hul hnews s6 hroom hfit
     rw[e1,hr2] at hr1
     simp only[Result.ok.injEq] at hr1
     rw[←hr1.2,cell_setRow_same w g' o cur _ e (0,0) e3,cell_of_row w g' o cur e (0,0) e3,hz1]
     have h1:o<(cur.toList.take (n*sz)).length:=by
      rw[Al,Array.length_toList,e6]
      exact Nat.lt_of_lt_of_le hlt (Nat.le_min.2 ⟨Nat.le_refl _,Nat.mul_le_mul_right _ e4⟩)
     simp only[List.getElem?_toArray]
     rw[List.append_assoc,List.getElem?_append_left h1,List.getElem?_take,if_pos hlt]
     simp
    ·have holds:∀j u,xs[j]?=some u→w.cell? ((⟨g',0,none⟩:Addr).add j)=some u:=hown.cells (g:=g') (by rw[e1];rfl)
     have hr2:=run_append_grow (P:=P) w st ty e i z hT hi hz0 ⟨g',0,none⟩ n cap xs (by rw[hown.1,hz1]) holds ad m sc us hul hnews (by omega) (by omega) (growslice_fits (by omega) (by rw[hz2];exact hbytes))
     rw[e1,hr2] at hr1
     simp only[Result.ok.injEq] at hr1
     rw[←hr1.2]
     exact World.cell?_of_block (heap_alloc_old _ _ (Array.getElem?_eq_some_iff.1 e3).1)
  ·rcases hown.2 with⟨hnil,h0⟩|⟨g',cap,cur,e1,e2,e3,e4,e5,e6,e7⟩
   ·right
    by_cases hm:m=0
    ·rw[hnil1.2 ⟨hnil,hm⟩] at hg;cases hg
    ·subst h0
     have hr2:=run_append_nil (P:=P) w st ty e i z hT hi hz0 ad m sc us hul hnews (by omega) (by omega) (by rw[hz2];rw[Nat.zero_add] at hbytes;omega)
     rw[hnil,hr2] at hr1
     simp only[Result.ok.injEq] at hr1
     rw[←hr1.1] at hg
     simp only[Value.ownBlock,Option.some.injEq] at hg
     omega
   ·by_cases hroom:n+m≤cap
    ·left
     have hfit:n*i.size+us.length≤cur.size:=by rw[hul,hz1,e6,←Nat.add_mul];exact Nat.mul_le_mul_right _ hroom
     have hr2:=run_append_room (P:=P) w st ty e i hT hi g' n cap cur e3 ad m sc us hul hnews s6 hroom hfit
     rw[e1,hr2] at hr1
     simp only[Result.ok.injEq] at hr1
     rw[←hr1.1] at hg
     rw[e1]
     exact hg
    ·right
     have holds:∀j u,xs[j]?=some u→w.cell? ((⟨g',0,none⟩:Addr).add j)=some u:=hown.cells (g:=g') (by rw[e1];rfl)
     have hr2:=run_append_grow (P:=P) w st ty e i z hT hi hz0 ⟨g',0,none⟩ n cap xs (by rw[hown.1,hz1]) holds ad m sc us hul hnews (by omega) (by omega) (growslice_fits (by omega) (by rw[hz2];exact hbytes))
     rw[e1,hr2] at hr1
     simp only[Result.ok.injEq] at hr1
     rw[←hr1.1] at hg
     simp only[Value.ownBlock,Option.some.injEq] at hg
     omega
section
variable {P:Program} {C:Cx} {o:Oper} {σ:AS} {t:Nat}
theorem Sm {st e:TypeId} {s x:Operand} {k n sz m by':Nat} {cs ds:List D} {d:TypeDesc} {z:Value} {ux:AV} (ho:o.op= .call {callee:= .builtin .append,args:=#[s,x],argTypes:=#[st,st]}) (hd:o.dst=some t) (ht:t<C.N) (hs:σ.eval s=some (.own k n sz e cs)) (hk:lk k σ.tk=some (n,sz,e))
 (hx:σ.eval x=some ux) (hux:ux.asSl sz=some (m,ds)) (hT:P.underlying st=some (.slice e)) (hE:TyOk P e d z sz by') (hz:z.cells.size=sz) (hpos:0<sz) (h63:n+m≤1000000000) (hby:by'≤1000):
 Bp P C o σ ⟨(t,.own k (n+m) sz e (cs++ds))::shT k σ.tm,shB k σ.bx,(k,n+m,sz,e)::σ.tk⟩:=by
 rintro a w ⟨bm,gt,fp,hg⟩ K Q hK
 have h1:=hg.eval hs
 have h2:=(hg.eval hx).asSl hux
 generalize hv:a.eval s=v at h1
 cases h1 with
 |own h1=>
  obtain⟨v',w',gt',fp',hrun,hG,hR⟩:=hg.append (ty:=o.type) hk h1 h2 hT hE hz hpos h63 hby
  unfold Oper.wp execOp
  simp only[ho,resolve,invoke,builtin,Sem.run_bind,Sem.run_pure,Result.andThen_ok,List.map_toArray,List.map_cons,List.map_nil,hv,hrun]
  rw[Oper.upon_value,hd]
  exact hK _ _ ⟨_,_,_,hG.put (t:=t) ht hR⟩
theorem L4 {st e:TypeId} {s x:Operand} {sz m by':Nat} {ds:List D} {d:TypeDesc} {z:Value} {ux:AV} {κ:Nat} (ho:o.op= .call {callee:= .builtin .append,args:=#[s,x],argTypes:=#[st,st]}) (hd:o.dst=some t) (ht:t<C.N) (hs:σ.eval s=some (.d (.v (.slice none 0 0)))) (hc:σ.clean κ=true)
 (hx:σ.eval x=some ux) (hux:ux.asSl sz=some (m,ds)) (hT:P.underlying st=some (.slice e)) (hE:TyOk P e d z sz by') (hz:z.cells.size=sz) (hpos:0<sz) (h63:m≤1000000000) (hby:by'≤1000):
 Bp P C o σ ⟨(t,.own κ m sz e ds)::σ.tm,σ.bx,(κ,m,sz,e)::σ.tk⟩:=by
 rintro a w ⟨bm,gt,fp,hg⟩ K Q hK
 have hv:=(hg.eval hs).val
 have h2:=(hg.eval hx).asSl hux
 have hA:=hg.adopt hc sz e
 obtain⟨v',w',gt',fp',hrun,hG,hR⟩:=hA.append (st:=st) (ty:=o.type) (cs:=[]) (k:=κ) (Bs _ _ _) (by rw[Cb];exact Gq _ _) h2 hT hE hz hpos (by omega) hby
 rw[Cb] at hrun
 unfold Oper.wp execOp
 simp only[ho,resolve,invoke,builtin,Sem.run_bind,Sem.run_pure,Result.andThen_ok,List.map_toArray,List.map_cons,List.map_nil,hv,hrun]
 rw[Oper.upon_value,hd]
 simp only[AS.clean,At] at hc
 simp only[Np hc.1,Ks hc.2,List.nil_append,Nat.zero_add] at hG hR
 obtain⟨bm',gt2,fp2,hG2⟩:G C ⟨(t,.own κ m sz e ds)::σ.tm,σ.bx,(κ,m,sz,e)::(κ,0,sz,e)::σ.tk⟩ (a.put (some t) v') w':=⟨_,_,_,hG.put (t:=t) ht hR⟩
 refine hK _ _ ⟨bm',gt2,fp2,{hG2 with tk:=fun j n' s' e' hj=> ?_,tki:=fun j j' x x' hj hj'=> ?_,tkb:=fun j j' x c hj=> ?_,ztk:=fun j x hj=> ?_}⟩
 all_goals
  have drop:∀j (x:Nat×Nat×TypeId),lk j ((κ,m,sz,e)::σ.tk)=some x→lk j ((κ,m,sz,e)::(κ,0,sz,e)::σ.tk)=some x:=fun j x hj=>by
   by_cases ej:κ=j
   ·subst ej;rw[Bs] at hj⊢;exact hj
   ·rw[Cf _ _ ej] at hj⊢;rw[Cf _ _ ej];exact hj
 ·exact hG2.ztk j x (drop j x hj)
 ·exact hG2.tk j n' s' e' (drop j _ hj)
 ·exact hG2.tki j j' x x' (drop j x hj) (drop j' x' hj')
 ·exact hG2.tkb j j' x c (drop j x hj)
end
end Go.Proofs.YtokmjjkbginodaaGreatDoor
namespace Go.Proofs.YtokmjjkbginodaaGreatDoor
open Go.RowKit
def AV.asSlT (sz:Nat):AV→Option (Bool×Nat×List D)
 | .d (.sl t n s cs)=>bif Nat.beq s sz then some (t,n,cs) else none
 | .own _ n s _ cs=>bif Nat.beq s sz then some (true,n,cs) else none
 | .d (.v (.slice none 0 0))=>some (true,0,[])
 |_=>none
theorem RA.asSlT {B:Nat} {fp:Nat→Nat→Prop} {w:World} {bm:BM} {gt:Nat→Value} {sz n:Nat} {t:Bool} {cs:List D} {u:AV} {v:Value} (h:RA B fp w bm gt u v) (hs:u.asSlT sz=some (t,n,cs)):Rd B fp w (.sl t n sz cs) v:=by
 unfold AV.asSlT at hs
 split at hs
 ·rename_i t' n' s cs'
  cases hb:Nat.beq s sz with
  |false=>rw[hb] at hs;cases hs
  |true=>
   rw[hb] at hs
   simp only[cond_true,Option.some.injEq,Prod.mk.injEq] at hs
   obtain⟨rfl,rfl,rfl⟩:=hs
   obtain rfl:=Nat.eq_of_beq_eq_true hb
   cases h with|d h=>exact h
 ·rename_i k n' s e cs'
  cases hb:Nat.beq s sz with
  |false=>rw[hb] at hs;cases hs
  |true=>
   rw[hb] at hs
   simp only[cond_true,Option.some.injEq,Prod.mk.injEq] at hs
   obtain⟨rfl,rfl,rfl⟩:=hs
   obtain rfl:=Nat.eq_of_beq_eq_true hb
   cases h with|own h=>exact h
 ·cases hs
  rw[h.val]
  exact Gq _ sz
 ·cases hs
theorem Rd.shape {B:Nat} {fp:Nat→Nat→Prop} {w:World} {t:Bool} {n sz:Nat} {cs:List D} {v:Value} (h:Rd B fp w (.sl t n sz cs) v):∃a c,v= .slice a n c∧n≤c∧c≤maxLen∧(a=none→c=0)∧∃us:List Value,us.length=cs.length∧(∀u∈us,u.oneCell'=true)∧(∀(i:Nat) d u,cs[i]?=some d→us[i]?=some u→Rd B fp w d u)∧
 (∀(i:Nat) u,us[i]?=some u→∃b o,a=some ⟨b,o,none⟩∧fp b (o+i)∧(t=true→B≤b)∧w.cell? ⟨b,o+i,none⟩=some u):=by
 cases h with|sl us h1 h2 h3 h4 h5 h6 h7 h8=>exact⟨_,_,rfl,h1,h2,h5,us,h4,h6,h7,h8⟩
def Ak (l:List UInt8):List D:=l.map fun y=> .v (.int .u8 y.toNat)
theorem B7 (l:List UInt8):(Ak l).length=l.length:=by simp[Ak]
theorem Gi (l:List UInt8) (i:Nat):(Ak l)[i]?=l[i]?.map fun y=>D.v (.int .u8 y.toNat):=by simp[Ak]
theorem H2 (l m:List UInt8):Ak (l++m)=Ak l++Ak m:=by simp[Ak]
theorem dA (l:List UInt8) (n:Nat):Ak (l.take n)=(Ak l).take n:=by simp[Ak,List.map_take]
theorem dB (l:List UInt8) (n:Nat):Ak (l.drop n)=(Ak l).drop n:=by simp[Ak,List.map_drop]
theorem Ao (l:List UInt8):D.uns (Ak l)=Ak l:=by
 rw[D.uns_eq];simp[Ak,D.un]
def Af (t:Bool) (l:List UInt8):D:= .sl t l.length 1 (Ak l)
theorem An (t:Bool) (l:List UInt8):(Af t l).un=Af false l:=by
 simp only[Af,D.un,Ao]
theorem Rd.bytes {B:Nat} {fp:Nat→Nat→Prop} {w:World} {t:Bool} {l:List UInt8} {v:Value} (h:Rd B fp w (Af t l) v):Dg (fun b=>t=true→B≤b) w v l:=by
 obtain⟨a,c,rfl,h1,h2,h5,us,h4,h6,h7,h8⟩:=h.shape
 refine⟨a,c,rfl,h1,h2,⟨by simp[Lib.byteCells],h5⟩,fun i u hu=> ?_⟩
 rw[F7,Option.map_eq_some_iff] at hu
 obtain⟨y,hy,rfl⟩:=hu
 have hlt:i<us.length:=by rw[h4,B7];exact(Aw.1 hy).1
 obtain⟨b,o,e1,e2,e3,e4⟩:=h8 i _ (Am hlt)
 refine⟨b,o,e1,e3,?_⟩
 have:=h7 i (.v (.int .u8 y.toNat)) us[i] (by rw[Gi,hy];rfl) (Am hlt)
 cases this':us[i] with
 |int k n=>
  rw[this'] at this
  cases this
  rw[e4,this']
 |_=>rw[this'] at this;cases this
theorem G1.bytes {B:Nat} {fp:Nat→Nat→Prop} {w:World} {S:Nat→Prop} {l:List UInt8} {v:Value} (t:Bool) (hf:∀b o,S b→fp b o) (ht:t=true→∀b,S b→B≤b) (h:Dg S w v l):Rd B fp w (Af t l) v:=by
 obtain⟨a,c,rfl,h1,h2,⟨h3,h5⟩,h4⟩:=h
 refine .sl (Lib.byteCells l) h1 h2 (by simp[Ak]) (by simp[Ak,Lib.byteCells]) h5 (fun u hu=> ?_) (fun i d u hd hu=> ?_) fun i u hu=> ?_
 ·simp only[Lib.byteCells,List.mem_map] at hu
  obtain⟨y,_,rfl⟩:=hu
  rfl
 ·rw[F7,Option.map_eq_some_iff] at hu
  obtain⟨y,hy,rfl⟩:=hu
  rw[Gi,hy] at hd
  simp at hd
  subst hd
  exact .v _
 ·obtain⟨b,o,e1,e2,e3⟩:=h4 i u hu
  exact⟨b,o,e1,hf _ _ e2,fun htt=>ht htt _ e2,e3⟩
def Bnd (σ:AS) (x:Option Operand) (dflt lo:Nat):Prop:=
 match x with
 |none=>lo=dflt
 |some x=>∃k z,σ.eval x=some (.d (.v (.int k z)))∧z=(lo:Int)
section
variable {P:Program} {C:Cx} {o:Oper} {σ:AS} {t:Nat}
theorem Tf {bm:BM} {gt:Nat→Value} {fp:Nat→Nat→Prop} {a:Act} {w:World} (hg:GG C bm gt fp σ a w) {x:Operand} {dflt lo:Nat} (h:Bnd σ (some x) dflt lo):∃k,a.eval x= .int k lo:=by
 obtain⟨k,z,h1,rfl⟩:=h
 exact⟨k,(hg.eval h1).val⟩
theorem Gr (k:IntKind) (lo y:Nat) (c:BoundsCode) (h:lo≤y) (w:World):(Instr.sliceBound (.int k lo) y c).run P w= .ok lo w:=by
 simp[Instr.sliceBound,asIntOf,go_sem,h]
def BV (x:Option Value) (dflt lo:Nat):Prop:=
 match x with
 |none=>lo=dflt
 |some v=>∃k,v= .int k lo
theorem jI {st e:TypeId} {sz:Nat} (hT:P.underlying st=some (.slice e)) (hsz:∀w,(sizeOf e).run P w= .ok sz w) (w:World) (a:Option Addr) (n c lo hi mx:Nat) (h1:lo≤hi) (h2:hi≤mx) (h3:mx≤c) (xl xh xm:Option Value)
 (hl:BV xl 0 lo) (hh:BV xh n hi) (hoo:xh=none→xm=none) (hm:BV xm c mx):
 (Instr.sliceAt st (.slice a n c) xl xh xm).run P w= .ok (.slice (if mx=lo then a else a.map (·.add (lo*sz))) (hi-lo) (mx-lo)) w:=by
 have hb:(Instr.sliceBounds true n c xl xh xm).run P w= .ok (lo,hi,mx) w:=by
  unfold Instr.sliceBounds
  unfold BV at hl hh hm
  cases xm with
  |none=>
   simp only at hm;subst hm
   cases xh with
   |none=>
    simp only at hh;subst hh
    cases xl with
    |none=>simp only at hl;subst hl;rfl
    |some v=>obtain⟨k,rfl⟩:=hl;simp[Result.andThen,Gr,h1]
   |some v=>
    obtain⟨k,rfl⟩:=hh
    cases xl with
    |none=>simp only at hl;subst hl;simp[Result.andThen,Gr,h2]
    |some v=>obtain⟨k',rfl⟩:=hl;simp[Sem.run_bind,Result.andThen,Gr,h1,h2]
  |some v=>
   obtain⟨km,rfl⟩:=hm
   cases xh with
   |none=>exact absurd (hoo rfl) (by simp)
   |some v=>
    obtain⟨k,rfl⟩:=hh
    cases xl with
    |none=>simp only at hl;subst hl;simp[Sem.run_bind,Result.andThen,Gr,h2,h3]
    |some v=>obtain⟨k',rfl⟩:=hl;simp[Sem.run_bind,Result.andThen,Gr,h1,h2,h3]
 unfold Instr.sliceAt
 rw[Sem.run_bind,run_underlying hT]
 simp only[Result.andThen]
 unfold Instr.slice
 rw[Sem.run_bind,run_underlying hT]
 simp only[Result.andThen]
 rw[Sem.run_bind,hb]
 simp only[Result.andThen]
 rw[Sem.run_bind,hsz]
 rfl
theorem jJ {st e:TypeId} {sz by' n lo hi mx:Nat} {x:Operand} {ol oh om:Option Operand} {tg:Bool} {cs cs':List D} {d:TypeDesc} {z:Value} {ux:AV} (ho:o.op= .slice st x ol oh om) (hd:o.dst=some t) (ht:t<C.N) (hT:P.underlying st=some (.slice e)) (hE:TyOk P e d z sz by')
 (hx:σ.eval x=some ux) (hux:ux.asSlT sz=some (tg,n,cs)) (hl:Bnd σ ol 0 lo) (hh:Bnd σ oh n hi) (hm:match om with|none=>mx=n|some x=>∃k z,σ.eval x=some (.d (.v (.int k z)))∧z=(mx:Int)) (hoo:oh=none→om=none) (h1:lo≤hi) (h2:hi≤mx) (h3:mx≤n) (hcs:(cs.drop (lo*sz)).take ((hi-lo)*sz)=cs'):
 Bp P C o σ (σ.put t (.d (.sl tg (hi-lo) sz cs'))):=
 Ba hd ht fun a w bm gt fp hg=>by
  have h:=(hg.eval hx).asSlT hux
  have hcl:=h.len
  obtain⟨ad,c,hv,k1,k2,k5,us,k4,k6,k7,k8⟩:=h.shape
  obtain⟨mx',hmx',hmm1,hmm2⟩:∃mx',hi≤mx'∧mx'≤c∧BV (om.map a.eval) c mx':=by
   cases om with
   |none=>exact⟨c,by omega,Nat.le_refl _,rfl⟩
   |some x=>
    obtain⟨k,z,e1,rfl⟩:=hm
    exact⟨mx,h2,by omega,k,(hg.eval e1).val⟩
  refine⟨_,?_,.d (.sl ((us.drop (lo*sz)).take ((hi-lo)*sz)) (c:=mx'-lo) (a:=if mx'=lo then ad else ad.map (·.add (lo*sz))) (by omega) (by omega) ?_ ?_ ?_ (fun u hu=>k6 u (List.mem_of_mem_drop (List.mem_of_mem_take hu))) (fun i p q hp hq=> ?_) fun i q hq=> ?_)⟩
  ·simp only[execOp,ho,hv]
   rw[Sem.run_bind,jI hT hE.size w ad n c lo hi mx' h1 hmx' hmm1 _ _ _ ?_ ?_ ?_ hmm2]
   ·rfl
   ·cases ol with
    |none=>exact hl
    |some x=>exact Tf hg hl
   ·cases oh with
    |none=>exact hh
    |some x=>exact Tf hg hh
   ·cases oh with
    |none=>intro _;rw[hoo rfl];rfl
    |some x=>intro h;cases h
  ·rw[←hcs,Al,Az,hcl]
   have:hi*sz≤n*sz:=Nat.mul_le_mul_right _ (by omega)
   rw[←Nat.sub_mul,Nat.min_eq_left (Nat.mul_le_mul_right _ (by omega))]
  ·rw[←hcs];simp[k4]
  ·intro hn
   split at hn
   ·omega
   ·rw[Option.map_eq_none_iff] at hn
    have:=k5 hn
    omega
  ·rw[←hcs,List.getElem?_take] at hp
   rw[List.getElem?_take] at hq
   split at hp
   ·rename_i hlt
    rw[if_pos hlt,List.getElem?_drop] at hq
    rw[List.getElem?_drop] at hp
    exact k7 _ p q hp hq
   ·cases hp
  ·rw[List.getElem?_take] at hq
   split at hq
   ·rename_i hlt
    rw[List.getElem?_drop] at hq
    obtain⟨b,p,rfl,e2,e3,e4⟩:=k8 _ q hq
    have hne:¬mx'=lo:=by
     intro e
     have:hi-lo=0:=by omega
     rw[this,Nat.zero_mul] at hlt
     exact absurd hlt (Nat.not_lt_zero _)
    refine⟨b,p+lo*sz,?_,by rw[Nat.add_assoc];exact e2,e3,by rw[Nat.add_assoc];exact e4⟩
    rw[if_neg hne,Option.map_some,add_lit]
   ·cases hq
theorem dC {st:TypeId} {lo hi:Nat} {x:Operand} {ol oh:Option Operand} {l l':List UInt8} (ho:o.op= .slice st x ol oh none) (hd:o.dst=some t) (ht:t<C.N) (hT:P.underlying st=some .string)
 (hx:σ.eval x=some (.d (.v (.string ⟨l.toArray⟩)))) (hl:Bnd σ ol 0 lo) (hh:Bnd σ oh l.length hi) (h1:lo≤hi) (h2:hi≤l.length) (hcs:(l.drop lo).take (hi-lo)=l'):
 Bp P C o σ (σ.put t (.d (.v (.string ⟨l'.toArray⟩)))):=
 Ba hd ht fun a w bm gt fp hg=>by
  have hv:=(hg.eval hx).val
  refine⟨_,?_,.d (.v _)⟩
  have hsz:(⟨l.toArray⟩:ByteArray).size=l.length:=by show l.toArray.size=_;simp
  have hb:∀xl xh:Option Value,(match xl with|none=>lo=0|some v=>∃k,v= .int k lo)→(match xh with|none=>hi=l.length|some v=>∃k,v= .int k hi)→(Instr.sliceBounds false l.length l.length xl xh none).run P w= .ok (lo,hi,l.length) w:=by
   intro xl xh hxl hxh
   unfold Instr.sliceBounds
   cases xh with
   |none=>
    simp only at hxh;subst hxh
    cases xl with
    |none=>simp only at hxl;subst hxl;rfl
    |some v=>obtain⟨k,rfl⟩:=hxl;simp[Result.andThen,Gr,h1]
   |some v=>
    obtain⟨k,rfl⟩:=hxh
    cases xl with
    |none=>simp only at hxl;subst hxl;simp[Result.andThen,Gr,h2]
    |some v=>obtain⟨k',rfl⟩:=hxl;simp[Sem.run_bind,Result.andThen,Gr,h1,h2]
  have he:(⟨l.toArray⟩:ByteArray).extract lo hi=⟨l'.toArray⟩:=by
   rw[←hcs]
   apply ByteArray.ext
   simp[ByteArray.data_extract,List.extract_eq_take_drop]
  simp only[execOp,ho,hv]
  unfold Instr.sliceAt
  rw[Sem.run_bind,Sem.run_bind,run_underlying hT]
  simp only[Result.andThen]
  unfold Instr.slice
  rw[Sem.run_bind,run_underlying hT]
  simp only[Result.andThen,Option.map_none,Option.isSome_none,Bool.false_eq_true,if_false,hsz]
  rw[Sem.run_bind,hb _ _ ?_ ?_]
  ·simp only[Result.andThen,he];rfl
  ·cases ol with
   |none=>exact hl
   |some x=>exact Tf hg hl
  ·cases oh with
   |none=>exact hh
   |some x=>exact Tf hg hh
theorem wG {st e:TypeId} {sz by' n i:Nat} {x y:Operand} {k:IntKind} {iv:Int} {tg:Bool} {cs cs':List D} {d:TypeDesc} {z:Value} {ux:AV} (ho:o.op= .indexAddr st x y) (hd:o.dst=some t) (ht:t<C.N) (hT:P.underlying st=some (.slice e)) (hE:TyOk P e d z sz by')
 (hx:σ.eval x=some ux) (hux:ux.asSlT sz=some (tg,n,cs)) (hy:σ.eval y=some (.d (.v (.int k iv)))) (hi:iv=(i:Int)) (hlt:i<n) (hpos:0<sz) (hcs:(cs.drop (i*sz)).take sz=cs'):
 Bp P C o σ (σ.put t (.d (.cp tg cs'))):=
 Ba hd ht fun a w bm gt fp hg=>by
  have h:=(hg.eval hx).asSlT hux
  have hcl:=h.len
  obtain⟨ad,c,hv,k1,k2,k5,us,k4,k6,k7,k8⟩:=h.shape
  have hyv:=(hg.eval hy).val
  subst hi
  cases ad with
  |none=>have:=k5 rfl;omega
  |some ad=>
   obtain⟨b,p,sp⟩:=ad
   by_cases hs:sp=none
   ·subst hs
    refine⟨.pointer (some ⟨b,p+i*sz,none⟩),?_,.d (.cp ((us.drop (i*sz)).take sz) (by rw[←hcs];simp[k4]) (fun j q r hq hr=> ?_) fun j r hr=> ?_)⟩
    ·simp only[execOp,ho,hv,hyv,Instr.indexAt,asIntOf]
     simp[go_sem,run_underlying hT,hlt,hE.size,add_lit]
    ·rw[←hcs,List.getElem?_take] at hq
     rw[List.getElem?_take] at hr
     split at hq
     ·rename_i hj
      rw[if_pos hj,List.getElem?_drop] at hr
      rw[List.getElem?_drop] at hq
      exact k7 _ q r hq hr
     ·cases hq
    ·rw[List.getElem?_take] at hr
     split at hr
     ·rw[List.getElem?_drop] at hr
      obtain⟨b',p',e1,e2,e3,e4⟩:=k8 _ r hr
      simp only[Option.some.injEq,Addr.mk.injEq,and_true] at e1
      obtain⟨rfl,rfl⟩:=e1
      rw[Nat.add_assoc]
      exact⟨e2,e3,e4⟩
     ·cases hr
   ·have h0:0<us.length:=by rw[k4,hcl];exact Nat.mul_pos (by omega) hpos
    obtain⟨b',p',e1,_⟩:=k8 0 us[0] (Am h0)
    simp only[Option.some.injEq,Addr.mk.injEq] at e1
    exact absurd e1.2.2 hs
theorem rW {st:TypeId} {i:Nat} {x y:Operand} {k:IntKind} {iv:Int} {l:List UInt8} {b:UInt8} (ho:o.op= .index st x y) (hd:o.dst=some t) (ht:t<C.N) (hT:P.underlying st=some .string)
 (hx:σ.eval x=some (.d (.v (.string ⟨l.toArray⟩)))) (hy:σ.eval y=some (.d (.v (.int k iv)))) (hi:iv=(i:Int)) (hb:l[i]?=some b):Bp P C o σ (σ.put t (.d (.v (.int .u8 b.toNat)))):=
 Ba hd ht fun a w bm gt fp hg=>by
  have hv:=(hg.eval hx).val
  have hyv:=(hg.eval hy).val
  subst hi
  refine⟨_,?_,.d (.v _)⟩
  have hlt:=(Aw.1 hb).1
  have hs:(⟨l.toArray⟩:ByteArray)[i]?=some b:=by
   have hsz:i<(⟨l.toArray⟩:ByteArray).size:=by show i<l.toArray.size;simpa using hlt
   rw[getElem?_pos _ i hsz]
   have:=(Aw.1 hb).2
   simpa[ByteArray.getElem_eq_getElem_data] using this
  simp only[execOp,ho,hv,hyv,Instr.index,asIntOf]
  simp[go_sem,run_underlying hT,hs]
theorem I5 {st e:TypeId} {sz n:Nat} {x:Operand} {tg:Bool} {cs:List D} {ux:AV} (ho:o.op= .call {callee:= .builtin .len,args:=#[x],argTypes:=#[st]}) (hd:o.dst=some t) (ht:t<C.N) (hT:P.underlying st=some (.slice e)) (hx:σ.eval x=some ux) (hux:ux.asSlT sz=some (tg,n,cs)):Bp P C o σ (σ.put t (.d (.v (.int .i64 n)))):=
 Ba hd ht fun a w bm gt fp hg=>by
  obtain⟨ad,c,hv,-⟩:=((hg.eval hx).asSlT hux).shape
  refine⟨_,?_,.d (.v _)⟩
  simp only[execOp,ho,resolve,invoke,builtin,Builtin.len_,Sem.run_bind,Sem.run_pure,Result.andThen_ok,List.map_toArray,List.map_cons,List.map_nil,hv]
  simp[go_sem,run_underlying hT,goInt]
theorem rX {st:TypeId} {x:Operand} {l:List UInt8} (ho:o.op= .call {callee:= .builtin .len,args:=#[x],argTypes:=#[st]}) (hd:o.dst=some t) (ht:t<C.N) (hT:P.underlying st=some .string) (hx:σ.eval x=some (.d (.v (.string ⟨l.toArray⟩)))):Bp P C o σ (σ.put t (.d (.v (.int .i64 l.length)))):=
 Ba hd ht fun a w bm gt fp hg=>by
  have hv:=(hg.eval hx).val
  refine⟨_,?_,.d (.v _)⟩
  have hsz:(⟨l.toArray⟩:ByteArray).size=l.length:=by show l.toArray.size=_;simp
  simp only[execOp,ho,resolve,invoke,builtin,Builtin.len_,Sem.run_bind,Sem.run_pure,Result.andThen_ok,List.map_toArray,List.map_cons,List.map_nil,hv]
  simp[go_sem,run_underlying hT,goInt,hsz]
theorem wH {src dst e:TypeId} {x:Operand} {tg:Bool} {n:Nat} {cs:List D} {l:List UInt8} {ux:AV} (ho:o.op= .convert src dst x) (hd:o.dst=some t) (ht:t<C.N) (hs:P.underlying src=some (.slice e)) (he:P.underlying e=some (.int .u8)) (hu:P.underlying dst=some .string)
 (hx:σ.eval x=some ux) (hux:ux.asSlT 1=some (tg,n,cs)) (hl:cs=Ak l):Bp P C o σ (σ.put t (.d (.v (.string ⟨l.toArray⟩)))):=
 Ba hd ht fun a w bm gt fp hg=>by
  subst hl
  have h:=(hg.eval hx).asSlT hux
  have hn:n=l.length:=by have:=h.len;rw[B7] at this;omega
  subst hn
  have hr:=(Rd.bytes (l:=l) h).string (P:=P) src dst e hs he hu
  refine⟨_,?_,.d (.v _)⟩
  simp only[execOp,ho]
  rw[Sem.run_bind,hr]
  rfl
theorem rY {src dst:TypeId} {x:Operand} {v:ByteArray} (ho:o.op= .convert src dst x) (hd:o.dst=some t) (ht:t<C.N) (hs:P.underlying src=some .string) (hu:P.underlying dst=some .string) (hx:σ.eval x=some (.d (.v (.string v)))):Bp P C o σ (σ.put t (.d (.v (.string v)))):=
 Ba hd ht fun a w bm gt fp hg=>by
  have hv:=(hg.eval hx).val
  refine⟨_,?_,.d (.v _)⟩
  simp only[execOp,ho,hv,convert]
  simp[go_sem,run_underlying hs,run_underlying hu]
end
end Go.Proofs.YtokmjjkbginodaaGreatDoor
