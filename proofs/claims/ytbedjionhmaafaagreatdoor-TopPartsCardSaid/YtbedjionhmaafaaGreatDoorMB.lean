/- MB: the texts Abs6 Abs7 Abs8 Abs9 AbsL AbsB AbsX AbsY Frz AbsD, one behind the other. No condition but what each lemma says. -/
import Derived.Test.YtbedjionhmaafaaGreatDoorMA
import Derived.Test.YtbedjionhmaafaaGreatDoorGRes
import Derived.Scope
import Derived.Test.YtbedjionhmaafaaGreatDoorGRegion
set_option linter.all false
set_option maxRecDepth 100000
set_option maxHeartbeats 16000000
namespace Go.Proofs.YtbedjionhmaafaaGreatDoor
open Go.RowKit
variable {fp:Nat→Nat→Prop} {w:World} {n sz t κ j s id p k off by' i m:Nat} {cs us vs fs zs:List AV} {C:Cx} {bm:BM} {gt:Nat→Value} {σ σ':AS} {a:Act} {r u ux:AV} {P:Program} {ops:Array Oper} {Φ:Exit→AS→Prop} {o oj:Oper} {b d tg:Bool} {f:FuncId} {args:Array Operand} {ats:Array TypeId} {x y:Operand} {l:List Oper} {c:Code} {fn:Func} {z:Value} {ps:Array (Nat×Operand)} {ds:List D} {β:Type} {ms:List Nat}
inductive D.le:D→D→Prop
 |refl (d:D):D.le d d
 |nil (t:Bool) (sz:Nat):D.le (.v (.slice none 0 0)) (.sl t 0 sz [])
 |tag (t:Bool) (n sz:Nat) (cs:List D):D.le (.sl true n sz cs) (.sl t n sz cs)
 |sl {t:Bool} {n sz:Nat} {cs cs':List D} (hl:cs.length=cs'.length) (h:∀(i:Nat) x y,cs[i]?=some x→cs'[i]?=some y→D.le x y):D.le (.sl t n sz cs) (.sl t n sz cs')
 |trans {a b c:D} (h:D.le a b) (h':D.le b c):D.le a c
def xG (x:D):AV:= .sem (fun z w v=>Rd 0 z w x v)
inductive AV.le:AV→AV→Prop
 |refl (u:AV):AV.le u u
 |d {x y:D} (h:D.le x y):AV.le (.d x) (.d y)
 |own (t:Bool) (k n sz:Nat) (e:TypeId) (cs:List D):AV.le (.own k n sz e cs) (.d (.sl t n sz cs))
 |agg {us vs:List AV} (hl:us.length=vs.length) (h:∀(i:Nat) u v,us[i]?=some u→vs[i]?=some v→AV.le u v):AV.le (.agg us) (.agg vs)
 |tup {us vs:List AV} (hl:us.length=vs.length) (h:∀(i:Nat) u v,us[i]?=some u→vs[i]?=some v→AV.le u v):AV.le (.tup us) (.tup vs)
 |z (x:D):AV.le (xG x) (.d x.un)
theorem Rd.retag {B:Nat} (t:Bool) {cs:List D} {v:Value} (h:Rd B fp w (.sl true n sz cs) v):Rd B fp w (.sl t n sz cs) v:=by
 cases t with
 |true=>exact h
 |false=>exact h.untag
theorem Rd.le {B:Nat} {x y:D} (e:D.le x y):∀{v:Value},Rd B fp w x v→Rd B fp w y v:=by
 induction e with
 |refl d=>exact fun h=>h
 |nil t sz=>intro v h;rw[(RA.d (bm:=⟨fun _=>0,fun _ _=>False⟩) (gt:=fun _=>undef) h).val];exact Ll t sz
 |tag t n sz cs=>exact fun h=>h.retag t
 |@sl t n sz cs E e h N=>
  intro v M
  cases M with
  |sl us A K F H L J Q I=>
   refine .sl us A K (e▸F) (H.trans e) L J (fun i d u R O=> ?_) I
   grind
 |trans _ _ q g=>exact fun h=>g (q h)
theorem RA.le {B:Nat} {fp:Nat→Nat→Prop} {w:World} {bm:BM} {gt:Nat→Value} {u H:AV} (O:∀b o,bm.z b o→fp b o) (A:AV.le u H):∀{v:Value},RA B fp w bm gt u v→RA B fp w bm gt H v:=by
 induction A with
 |refl u=>exact fun h=>h
 |d K=>
  intro v h
  cases h with
  |d h=>exact .d (h.le K)
 |own t k n sz e cs=>intro v h;cases h with|own h=>exact .d (h.retag t)
 |z x=>
  intro v h
  generalize g:xG x=q at h
  cases h with
  |sem Q h=>
   unfold xG at g
   cases g
   have M:Rd 0 bm.z w x v:=h bm.z w (fun _ _ x=>x) (fun _ _ _=>rfl) (NC.refl w)
   exact .d (M.keep (At 0) O (fun _ _ _=>rfl):Rd 0 fp w x v).un
  |d=>cases g
  |ptr=>cases g
  |own=>cases g
  |agg=>cases g
  |tup=>cases g
  |cl=>cases g
  |pk=>cases g
 |agg A h I=>
  intro v E
  cases E with
  |agg vs F N=>
   refine .agg vs (F.trans A) fun i x y J L=> ?_
   grind
 |tup A h I=>
  intro v E
  cases E with
  |tup vs F N=>
   refine .tup vs (F.trans A) fun i x y J L=> ?_
   grind
inductive AV.les:List AV→List AV→Prop
 |nil:AV.les [] []
 |cons {u v:AV} {us vs:List AV} (h:AV.le u v) (r:AV.les us vs):AV.les (u::us) (v::vs)
theorem Mr (h:AV.les us vs):us.length=vs.length:=by
 induction h with
 |nil=>rfl
 |cons h r e=>simp[e]
theorem Q5 (h:AV.les us vs):∀(i:Nat) u v,us[i]?=some u→vs[i]?=some v→AV.le u v:=by
 induction h with
 |nil=>intro i u v e;simp at e
 |cons h r g=>
  grind
theorem fK (h:AV.les us vs):AV.le (.tup us) (.tup vs):= .tup (Mr h) (Q5 h)
theorem fL (h:AV.les us vs):AV.le (.agg us) (.agg vs):= .agg (Mr h) (Q5 h)
theorem Ln:∀us:List AV,AV.les us us
 |[]=> .nil
 |u::us=> .cons (.refl u) (Ln us)
mutual
def AV.give:AV→AV
 | .d x=> .d x.un
 | .ptr k o=> .ptr k o
 | .own _ n sz _ cs=> .d (.sl false n sz (Ef cs))
 | .agg cs=> .agg (D8 cs)
 | .tup cs=> .tup (D8 cs)
 | .sem φ=> .sem φ
 | .cl f fs cs=> .cl f (D8 fs) (D8 cs)
 | .pk k o n sz=> .pk k o n sz
def D8:List AV→List AV
 |[]=>[]
 |c::r=>c.give::D8 r
end
theorem Jp (l:List AV):D8 l=l.map AV.give:=by
 induction l with
 |nil=>rfl
 |cons d r e=>rw[D8,e];rfl
mutual
def AV.noPtr:AV→Bool
 | .d _=>true
 | .ptr _ _=>false
 | .own _ _ _ _ _=>true
 | .agg cs=>Fb cs
 | .tup cs=>Fb cs
 | .sem _=>true
 | .cl _ fs cs=>Fb fs&&Fb cs
 | .pk _ _ _ _=>false
def Fb:List AV→Bool
 |[]=>true
 |c::r=>c.noPtr&&Fb r
end
theorem K9:∀{l:List AV} {i:Nat} {u:AV},Fb l=true→l[i]?=some u→u.noPtr=true
 |[],_,_,_,h=>by simp at h
 |c::r,0,u,hc,h=>by grind [Fb]
 |c::r,i+1,u,hc,h=>by
  simp only[Fb,Et] at hc
  exact K9 hc.2 (by simpa using h)
theorem RA.give {B O:Nat} {fp:Nat→Nat→Prop} {w:World} {bm bm':BM} {gt A:Nat→Value} {u:AV} {v:Value} (K:∀b o,bm.z b o→bm'.z b o) (h:RA B fp w bm gt u v) (F:u.noPtr=true):RA O fp w bm' A u.give v:=by
 induction h with
 |d h=>exact .d h.un
 |sem L h=>exact .sem L fun N w' Q U k3=>h N w' (fun b o I=>Q b o (K b o I)) (fun b o I=>U b o (K b o I)) k3
 |ptr=>cases F
 |pk h=>cases F
 |cl us vs R q W J V T=>
  simp only[AV.noPtr,Et] at F
  unfold AV.give
  refine .cl us vs (by rw[Jp,Ba];exact R) (by rw[Jp,Ba];exact q) (fun i u v e E=> ?_) (fun i u v e E=> ?_)
  ·rw[Jp,Bk,A8] at e
   obtain⟨H,g,rfl⟩:=e
   grind [K9]
  ·rw[Jp,Bk,A8] at e
   obtain⟨H,g,rfl⟩:=e
   grind [K9]
 |own h=>exact .d h.un
 |agg vs q J M=>
  unfold AV.give
  refine .agg vs (by rw[Jp,Ba];exact q) fun i u v e E=> ?_
  rw[Jp,Bk,A8] at e
  obtain⟨H,g,rfl⟩:=e
  grind [K9,AV.noPtr]
 |tup vs q J M=>
  unfold AV.give
  refine .tup vs (by rw[Jp,Ba];exact q) fun i u v e E=> ?_
  rw[Jp,Bk,A8] at e
  obtain⟨H,g,rfl⟩:=e
  grind [K9,AV.noPtr]
mutual
def AV.data:AV→Bool
 | .d _=>true
 | .ptr _ _=>false
 | .own _ _ _ _ _=>false
 | .agg cs=>Ji cs
 | .tup cs=>Ji cs
 | .sem _=>true
 | .cl _ fs cs=>Ji fs&&Ji cs
 | .pk _ _ _ _=>false
def Ji:List AV→Bool
 |[]=>true
 |c::r=>c.data&&Ji r
end
theorem Js:∀{l:List AV} {i:Nat} {u:AV},Ji l=true→l[i]?=some u→u.data=true
 |[],_,_,_,h=>by simp at h
 |c::r,0,u,hc,h=>by grind [Ji]
 |c::r,i+1,u,hc,h=>by
  simp only[Ji,Et] at hc
  exact Js hc.2 (by simpa using h)
theorem RA.data {B:Nat} {fp:Nat→Nat→Prop} {w:World} {bm bm':BM} {gt F:Nat→Value} {u:AV} {v:Value} (L:∀b o,bm.z b o→bm'.z b o) (h:RA B fp w bm gt u v) (g:u.data=true):RA B fp w bm' F u v:=by
 induction h with
 |d h=>exact .d h
 |ptr=>cases g
 |pk h=>cases g
 |cl us vs Q A T K I H=>
  simp only[AV.data,Et] at g
  exact .cl us vs Q A (fun i u v e q=>I i u v e q (Js g.1 e)) (fun i u v e q=>H i u v e q (Js g.2 e))
 |own h=>cases g
 |sem M h=>exact .sem M fun N w' O R k3=>h N w' (fun b o J=>O b o (L b o J)) (fun b o J=>R b o (L b o J)) k3
 |agg vs A K E=>exact .agg vs A fun i u v e q=>E i u v e q (Js (by simpa only[AV.data] using g) e)
 |tup vs A K E=>exact .tup vs A fun i u v e q=>E i u v e q (Js (by simpa only[AV.data] using g) e)
def AV.tok:AV→Option (Nat×Nat×TypeId)
 | .own _ n sz e _=>some (n,sz,e)
 | .tup (.own _ n sz e _::_)=>some (n,sz,e)
 |_=>none
def AV.ren (t:Nat):AV→AV
 | .own _ n sz e cs=> .own t n sz e cs
 | .tup (.own _ n sz e cs::r)=> .tup (.own t n sz e cs::r)
 |u=>u
def AV.okRes:AV→Bool
 | .own 0 _ _ _ _=>true
 | .tup (.own 0 _ _ _ _::r)=>Ji r
 |u=>u.data
theorem mL (t:Nat):∀r:AV,r.okRes=true→(r.data=true∧r.tok=none∧r.ren t=r)∨(∃n sz e cs,r= .own 0 n sz e cs)∨(∃n sz e cs g,r= .tup (.own 0 n sz e cs::g)∧Ji g=true)
 | .d _,_=> .inl ⟨rfl,rfl,rfl⟩
 | .ptr _ _,h=>by cases h
 | .own 0 n sz e cs,_=> .inr (.inl ⟨n,sz,e,cs,rfl⟩)
 | .own (k+1) n sz e cs,h=>by cases h
 | .agg _,h=> .inl ⟨h,rfl,rfl⟩
 | .tup [],h=> .inl ⟨h,rfl,rfl⟩
 | .tup (.d _::_),h=> .inl ⟨h,rfl,rfl⟩
 | .tup (.ptr _ _::_),h=>by cases h
 | .tup (.own (k+1) _ _ _ _::_),h=>by cases h
 | .tup (.agg _::_),h=> .inl ⟨h,rfl,rfl⟩
 | .tup (.tup _::_),h=> .inl ⟨h,rfl,rfl⟩
 | .tup (.sem _::_),h=> .inl ⟨h,rfl,rfl⟩
 | .sem _,_=> .inl ⟨rfl,rfl,rfl⟩
 | .cl _ _ _,h=> .inl ⟨h,rfl,rfl⟩
 | .pk _ _ _ _,h=>by cases h
 | .tup (.cl _ _ _::_),h=> .inl ⟨h,rfl,rfl⟩
 | .tup (.pk _ _ _ _::_),h=>by cases h
 | .tup (.own 0 n sz e cs::g),h=> .inr (.inr ⟨n,sz,e,cs,g,rfl,h⟩)
def aG (W:World) (fp0 z0:Nat→Nat→Prop) (w':World) (r:AV) (v:Value):Prop:=
 r.okRes=true∧∃fp gt z,(∀b o,fp b o→(fp0 b o∨W.heap.size≤b)∧b<w'.heap.size)∧RA W.heap.size fp w' ⟨fun _=>0,z⟩ gt r v∧(∀n sz e,r.tok=some (n,sz,e)→TokOk W.heap.size fp w' (gt 0) n sz e∧∀g,(gt 0).ownBlock=some g→∀o,¬z g o)∧
  (∀b o,z0 b o→z b o)∧(∀b o,z b o→fp b o)∧∀b o,z b o→z0 b o∨W.heap.size≤b
def RAs (B:Nat) (fp:Nat→Nat→Prop) (w:World) (bm:BM) (gt:Nat→Value):List AV→List Value→Prop
 |[],[]=>True
 |u::us,v::vs=>RA B fp w bm gt u v∧RAs B fp w bm gt us vs
 |_,_=>False
def Es (P:Program) (f:FuncId) (args:List AV) (Φ:AV→Prop):Prop:=
 (∀xs0 w,(callFunc f xs0).run P w= .ok (.enter f xs0) w)∧
 ∀(w:World) (fp0 z0:Nat→Nat→Prop) (vs:List Value),Gd w→(∀b o,fp0 b o→b<w.heap.size)→(∀b o,z0 b o→fp0 b o)→RAs w.heap.size fp0 w ⟨fun _=>0,z0⟩ (fun _=>undef) args vs→
  Calls P f vs.toArray w fun e w'=>∃r v,e= .returned v∧Φ r∧Below w.heap.size w w'∧aG w fp0 z0 w' r v
theorem Es.mono {P:Program} {f:FuncId} {args:List AV} {Φ e:AV→Prop} (h:Es P f args Φ) (H:∀r,Φ r→e r):Es P f args e:=
 ⟨h.1,fun w fp0 q vs I g E A=>(h.2 w fp0 q vs I g E A).mono fun _ _ ⟨r,v,B,F,k3⟩=>⟨r,v,B,H r F,k3⟩⟩
theorem GG.widen {nw z:Nat→Nat→Prop} (h:GG C bm gt fp σ a w) (W:∀b o,nw b o→C.W.heap.size≤b∧b<w.heap.size) (V:∀k cs,lk k σ.bx=some cs→∀o,¬nw (bm k) o)
 (T:∀k n sz e,lk k σ.tk=some (n,sz,e)→∀g,(gt k).ownBlock=some g→∀o,n*sz≤o→¬nw g o)
 (E:∀b o,bm.z b o→z b o) (I:∀b o,z b o→fp b o∨nw b o) (H:∀k x,lk k σ.tk=some x→∀g,(gt k).ownBlock=some g→∀o,¬z g o) (K:∀b o,z b o→bm.z b o∨C.W.heap.size≤b):GG C ⟨bm.m,z⟩ gt (fun b o=>fp b o∨nw b o) σ a w:=by
 have A:∀{u v},RA C.W.heap.size fp w bm gt u v→RA C.W.heap.size (fun b o=>fp b o∨nw b o) w ⟨bm.m,z⟩ gt u v:=fun U=>(U.keep h.zf (NC.refl w) (At _) (fun _ _ x=> .inl x) (fun _ _ _=>rfl)).zmono E
 refine{sz:=h.sz,nN:=h.nN,gd:=h.gd,za:=fun b o N=>E b o (h.za b o N),zb:=fun b o N=>(K b o N).elim (h.zb b o) .inr,zf:=I,ztk:=H,df:=h.df,tm:=fun t u L=> ?_,bx:=fun k cs F=> ?_,bxi:=h.bxi,tk:=fun k n sz e F=> ?_,tki:=h.tki,tkb:=h.tkb,fpb:=fun b o q=> ?_,fp0:=fun b o q=> .inl (h.fp0 b o q),fpB:=h.fpB,bel:=h.bel}
 ·obtain⟨v,J,M⟩:=h.tm t u L
  exact⟨v,J,A M⟩
 ·have B:=h.bx k cs F
  obtain⟨cur,e,J,M,k3⟩:=B.obj
  exact⟨B.own,fun o q=>q.elim (B.un o) (V k cs F o),cur,e,J,M,fun i u v L R=>A (k3 i u v L R)⟩
 ·have B:=h.tk k n sz e F
  exact⟨B.own,fun g Q o O q=>q.elim (B.tail g Q o O) (T k n sz e F g Q o O)⟩
 ·rcases q with q|q
  ·exact h.fpb b o q
  grind
def AS.res (σ:AS) (t κ:Nat) (r:AV):AS:=⟨(t,r.ren κ)::σ.tm,σ.bx,match r.tok with|some x=>(κ,x)::σ.tk|none=>σ.tk⟩
theorem GG.back {w':World} (h:GG C bm gt fp σ a w) (ht:t<C.N) (hc:σ.clean κ=true) {v:Value} (hb:Below w.heap.size w w') (hr:aG w fp bm.z w' r v):G C (σ.res t κ r) (a.put (some t) v) w':=by
 obtain⟨hok,B,A,L,hfc,X,W,hzA,hzB,hzC⟩:=hr
 have htok:∀n sz e,r.tok=some (n,sz,e)→TokOk w.heap.size B w' (A 0) n sz e:=fun n sz e ht=>(W n sz e ht).1
 have hz2:∀b o,L b o→fp b o∨(B b o∧w.heap.size≤b):=fun b o Q=>(hzC b o Q).elim (fun x=> .inl (h.zf b o x)) (fun x=> .inr ⟨hzB b o Q,x⟩)
 have hz4:∀b o,L b o→bm.z b o∨C.W.heap.size≤b:=fun b o Q=>(hzC b o Q).imp id (fun x=>Bi h.bel.size x)
 have hz3:∀k x,lk k σ.tk=some x→∀g,(gt k).ownBlock=some g→∀o,¬L g o:=fun k x M g E o Q=>by
  rcases hzC g o Q with hz'|hz'
  ·exact h.ztk k x M g E o hz'
  ·obtain⟨xs,I⟩:=(h.tk k x.1 x.2.1 x.2.2 M).own
   have:=(I.lt g E).2;omega
 have K:C.W.heap.size≤w.heap.size:=h.bel.size
 have V:r.data=true→r.tok=none→r.ren κ=r→G C (σ.res t κ r) (a.put (some t) v) w':=by
  intro hd hnt N
  have h1:=(h.grow hb).widen (nw:=fun b o=>B b o∧w.heap.size≤b) (z:=L) (fun b o T=>⟨Bi K T.2,(hfc b o T.1).2⟩) (fun k cs M o T=>by have:=(h.bx k cs M).lt;omega) (fun k n sz e M g E o _ T=>by
   obtain⟨xs,I⟩:=(h.tk k n sz e M).own
   have:=(I.lt g E).2;omega) hzA hz2 hz3 hz4
  have h2:RA C.W.heap.size (fun b o=>fp b o∨(B b o∧w.heap.size≤b)) w' ⟨bm.m,L⟩ gt r v:=by
   have q:RA C.W.heap.size (fun b o=>fp b o∨(B b o∧w.heap.size≤b)) w' ⟨fun _=>0,L⟩ A r v:=X.keep hzB (NC.refl _) K (fun b o hf=>((hfc b o hf).1.imp id (fun x=>⟨hf,x⟩))) (fun _ _ _=>rfl)
   exact q.data (bm:=⟨fun _=>0,L⟩) (bm':=⟨bm.m,L⟩) (fun _ _ x=>x) hd
  have h3:=h1.put (t:=t) ht h2
  unfold AS.res
  rw[N,hnt]
  exact⟨_,_,_,h3⟩
 have own:∀n sz e,r.tok=some (n,sz,e)→(∀(bm':BM) J H,(∀b o,L b o→bm'.z b o)→(∀b o,B b o→H b o)→J κ=A 0→RA C.W.heap.size H w' bm' J (r.ren κ) v)→G C (σ.res t κ r) (a.put (some t) v) w':=by
  intro n sz e htk N
  have hT:=htok n sz e htk
  obtain⟨xs,I⟩:=hT.own
  have hge:∀g,(A 0).ownBlock=some g→w.heap.size≤g∧g<w'.heap.size:=fun g E=>I.lt g E
  have hA:=h.adopt hc sz e
  have hxs':w'.ownsRow C.W.heap.size e sz (A 0) n xs:=by
   refine⟨I.1,I.2.imp id ?_⟩
   rintro⟨g,cap,cur,e1,e2,e3⟩
   exact⟨g,cap,cur,e1,Bi K e2,e3⟩
  have h1:=hA.retok (w':=w') (k:=κ) (n':=n) (v':=A 0) (F1 _ _ _) hb.size (h.bel.trans (hb.mono K)) (fun j R _=>hb.block j R) (fun g o E _=>by rw[Gk] at E;cases E) ⟨xs,hxs'⟩ (fun g E=> .inr (hge g E).1)
  simp only[AS.clean,Et] at hc
  simp only[Te hc.1,Qe hc.2] at h1
  have Y:∀j,Nh (Nh gt κ (.slice none 0 0)) κ (A 0) j=Nh gt κ (A 0) j:=fun j=>by unfold Nh;split<;>rfl
  have hz2':∀b o,L b o→(fp b o∨((A 0).ownBlock=some b∧o<n*sz))∨(B b o∧w.heap.size≤b):=fun b o Q=>(hz2 b o Q).imp .inl id
  have h2:=h1.widen (nw:=fun b o=>B b o∧w.heap.size≤b) (z:=L) (fun b o T=>⟨Bi K T.2,(hfc b o T.1).2⟩) (fun k cs M o T=>by have:=(h.bx k cs M).lt;omega) (fun k n' sz' e' M g E o ho T=>by
   by_cases ek:κ=k
   ·subst ek
    rw[Y,Gk] at E
    simp only[F1,A7,Prod.mk.injEq] at M
    obtain⟨rfl,rfl,rfl⟩:=M
    exact hT.tail g E o ho T.1
   ·rw[Y,Jg _ _ _ (fun e=>ek e.symm)] at E
    have hk':lk k σ.tk=some (n',sz',e'):=by simpa only[Gm _ _ ek] using M
    obtain⟨ys,hys⟩:=(h.tk k n' sz' e' hk').own
    have:=(hys.lt g E).2;omega) hzA hz2' (fun k x M g E o Q=>by
   grind [Gk,sz,Jg,Gm]) hz4
  have h3:=h2.put (t:=t) (u:=r.ren κ) (v:=v) ht (N _ _ _ (fun _ _ x=>x) (fun b o hf=>by
   grind) (by rw[Y,Gk]))
  unfold AS.res
  rw[htk]
  obtain⟨bm',gt2,fp2,O⟩:G C ⟨(t,r.ren κ)::σ.tm,σ.bx,(κ,n,sz,e)::(κ,0,sz,e)::σ.tk⟩ (a.put (some t) v) w':=⟨_,_,_,h3⟩
  refine⟨bm',gt2,fp2,{O with tk:=fun j n' s' e' R=> ?_,tki:=fun j j' x x' R hj'=> ?_,tkb:=fun j j' x c R=> ?_,ztk:=fun j x R=> ?_}⟩
  all_goals
   have F:∀j (x:Nat×Nat×TypeId),lk j ((κ,n,sz,e)::σ.tk)=some x→lk j ((κ,n,sz,e)::(κ,0,sz,e)::σ.tk)=some x:=fun j x R=>by
    grind [F1,Gm]
  ·exact O.ztk j x (F j x R)
  ·exact O.tk j n' s' e' (F j _ R)
  ·exact O.tki j j' x x' (F j x R) (F j' x' hj')
  ·exact O.tkb j j' x c (F j x R)
 have Z:∀{n sz:Nat} {e:TypeId} {cs:List D} {x:Value},RA w.heap.size B w' ⟨fun _=>0,L⟩ A (.own 0 n sz e cs) x→∀(bm':BM) (J:Nat→Value) (H:Nat→Nat→Prop),(∀b o,L b o→bm'.z b o)→(∀b o,B b o→H b o)→J κ=A 0→RA C.W.heap.size H w' bm' J (.own κ n sz e cs) x:=by
  intro n sz e cs x hx bm' J H _ hf E
  generalize U:AV.own 0 n sz e cs=q at hx
  cases hx with
  |own hx=>
   cases U
   rw[←E] at hx⊢
   exact .own (hx.keep K hf (fun _ _ _=>rfl))
  |d=>cases U
  |ptr=>cases U
  |agg=>cases U
  |tup=>cases U
  |sem=>cases U
  |cl=>cases U
  |pk=>cases U
 rcases mL κ r hok with⟨h1,h2,h3⟩|⟨n,sz,e,cs,rfl⟩|⟨n,sz,e,cs,rs,rfl,hrs⟩
 ·exact V h1 h2 h3
 ·exact own n sz e rfl (Z X)
 ·refine own n sz e rfl fun bm' J H Q hf E=> ?_
  cases X with
  |tup vs h4 h7=>
   refine .tup vs (by simpa[AV.ren] using h4) fun i x y hx hy=> ?_
   cases i with
   |zero=>
    grind
   |succ i=>
    have hx':(AV.own 0 n sz e cs::rs)[i+1]?=some x:=by simpa[AV.ren] using hx
    have hd:x.data=true:=Js (l:=rs) hrs (by simpa using hx')
    exact((h7 (i+1) x y hx' hy).keep hzB (NC.refl _) K hf (fun _ _ _=>rfl)).data (bm:=⟨fun _=>0,L⟩) Q hd
def evL (σ:AS):List Operand→Option (List AV)
 |[]=>some []
 |x::r=>match σ.eval x,evL σ r with
  |some u,some us=>some (u::us)
  |_,_=>none
theorem GG.evL {C:Cx} {bm:BM} {gt:Nat→Value} {fp:Nat→Nat→Prop} {σ:AS} {a:Act} {w:World} (h:GG C bm gt fp σ a w):∀{l:List Operand} {us:List AV},evL σ l=some us→Fb us=true→RAs w.heap.size fp w ⟨fun _=>0,bm.z⟩ (fun _=>undef) (D8 us) (l.map a.eval)
 |[],us,hl,_=>by cases hl;trivial
 |x::r,us,hl,hn=>by
  unfold Proofs.YtbedjionhmaafaaGreatDoor.evL at hl
  split at hl
  ·rename_i u g e q
   cases hl
   simp only[Fb,Et] at hn
   exact⟨(h.eval e).give (bm:=bm) (bm':=⟨fun _=>0,bm.z⟩) (fun _ _ x=>x) hn.1,GG.evL h q hn.2⟩
  ·cases hl
def J3 (P:Program) (C:Cx) (o:Oper) (σ:AS) (S:AS→Prop):Prop:=∀a w,G C σ a w→∀K Q,(∀σ' a' w',S σ'→G C σ' a' w'→K a' w')→o.wp P a w K Q
theorem sT {r:List Oper} {S:AS→Prop} (v:o.guard=none) (h:J3 P C o σ S) (k:∀σ',S σ'→P1 P C ops Φ r σ'):P1 P C ops Φ (o::r) σ:=
 fun a w A=>wpList_plain v fun K e=>h a w A K _ fun σ' g w' B q=>e _ _ (k σ' B g w' q)
theorem Yn {r:List Oper} {S:AS→Prop} (H:o.guard=some (j,b)) (g:ops[j]?=some oj) (B:oj.dst=some t) (I:lk t σ.tm=some (.d (.v (.bool b)))) (F:t<1000000)
 (h:J3 P C o σ S) (k:∀σ',S σ'→P1 P C ops Φ r σ'):P1 P C ops Φ (o::r) σ:=by
 intro a w e
 have E:=Mm e g B I F
 refine wpList_step fun K q=> ?_
 rw[Aj (by simp[Region.wanted,H,E])]
 exact h a w e K _ fun σ' v w' J A=>q _ _ (k σ' J v w' A)
section
variable {P:Program} {C:Cx} {o:Oper} {σ:AS} {t:Nat}
theorem Uo (H:GG C bm gt fp σ a w) (A:o.dst=some t) (F:t<C.N) (B:σ.clean κ=true) {vs:List Value} {Φ:AV→Prop}
 (h:Calls P f vs.toArray w fun e w'=>∃r v,e= .returned v∧Φ r∧Below w.heap.size w w'∧aG w fp bm.z w' r v) {K:Act→World→Prop} {Q:Exit→Act→World→Prop} (q:∀σ' g w',(∃r,Φ r∧σ'=σ.res t κ r)→G C σ' g w'→K g w'):
 o.upon P a K Q (.ok (.enter f vs.toArray) w):=by
 rw[Oper.upon_enter]
 refine h.mono ?_
 rintro e w' ⟨r,v,rfl,E,J,I⟩
 simp only[]
 rw[A]
 exact q _ _ _ ⟨r,E,rfl⟩ (H.back F B J I)
theorem Xj {Φ:AV→Prop} (J:o.op= .call {callee:= .value (.func f),args:=args,argTypes:=ats}) (F:o.dst=some t) (L:t<C.N) (I:σ.clean κ=true)
 (B:evL σ args.toList=some us) (v:Fb us=true) (q:D8 us=fs) (e:Es P f fs Φ):J3 P C o σ (fun σ'=>∃r,Φ r∧σ'=σ.res t κ r):=by
 rintro a w ⟨bm,gt,fp,h⟩ K Q A
 subst q
 have H:=e.2 w fp bm.z (args.toList.map a.eval) h.gdw (fun b o E=>(h.fpb b o E).2) h.zf (h.evL B v)
 have g:(execOp a.eval o).run P w= .ok (.enter f (args.toList.map a.eval).toArray) w:=by
  simp only[execOp,J,resolve,Deferred.ofValue,Act.eval,invoke,Au,Bs,A6,e.1]
  obtain⟨l⟩:=args
  simp
 unfold Oper.wp
 rw[g]
 exact Uo h F L I H A
theorem sU {B:List D} {Φ:AV→Prop} (W:o.op= .call {callee:= .value (.tmp s),args:=args,argTypes:=ats}) (M:o.dst=some t) (X:t<C.N) (V:σ.clean κ=true)
 (I:σ.eval (.tmp s)=some (.d (.fn f B))) (O:evL σ args.toList=some us) (hn:Fb us=true) (N:D8 us++D8 (B.map AV.d)=fs) (e:Es P f fs Φ):J3 P C o σ (fun σ'=>∃r,Φ r∧σ'=σ.res t κ r):=by
 rintro a w ⟨bm,gt,fp,E⟩ K Q U
 subst N
 have q:=E.eval (x:= .tmp s) I
 generalize Z:a.eval (.tmp s)=v at q
 cases q with
 |d q=>
  cases q with
  |fn cs h4 h7=>
   have J:∀{us vs g A},RAs w.heap.size fp w ⟨fun _=>0,bm.z⟩ (fun _=>undef) us vs→RAs w.heap.size fp w ⟨fun _=>0,bm.z⟩ (fun _=>undef) g A→RAs w.heap.size fp w ⟨fun _=>0,bm.z⟩ (fun _=>undef) (us++g) (vs++A):=by
    intro us
    induction us with
    |nil=>intro vs g A h R;cases vs with|nil=>exact R|cons=>exact h.elim
    |cons u us H=>intro vs g A h R;cases vs with|nil=>exact h.elim|cons v vs=>exact⟨h.1,H h.2 R⟩
   have L:∀(l:List D) (ms:List Value),ms.length=l.length→(∀(i:Nat) d u,l[i]?=some d→ms[i]?=some u→Rd C.W.heap.size fp w d u)→RAs w.heap.size fp w ⟨fun _=>0,bm.z⟩ (fun _=>undef) (D8 (l.map AV.d)) ms:=by
    intro l
    induction l with
    |nil=>intro ms h _;rw[Bn h];trivial
    |cons x l H=>
     intro ms h T
     cases ms with
     |nil=>simp at h
     |cons m ms=>exact⟨.d (T 0 x m rfl rfl).un,H ms (by simpa using h) fun i d u M O=>T (i+1) d u (by simpa using M) (by simpa using O)⟩
   have Y:=e.2 w fp bm.z (args.toList.map a.eval++cs) E.gdw (fun b o I=>(E.fpb b o I).2) E.zf (J (E.evL O hn) (L _ _ h4 h7))
   have F:(execOp a.eval o).run P w= .ok (.enter f (args.toList.map a.eval++cs).toArray) w:=by
    simp only[execOp,W,resolve,Z,Deferred.ofValue,invoke,Au,Bs,A6,e.1]
    obtain⟨l⟩:=args
    simp
   unfold Oper.wp
   rw[F]
   exact Uo E M X V Y U
end
def G3 (P:Program) (C:Cx) (c:Code) (Φ:Exit→AS→Prop) (σ:AS):Prop:=∀a w,G C σ a w→c.wp P (T5 C Φ) a w
def nx (k:AS→Prop) (Φ:Exit→AS→Prop):Exit→AS→Prop
 | .normal,σ=>k σ
 |e,σ=>Φ e σ
def inB (id:Nat) (Φ:Exit→AS→Prop):Exit→AS→Prop
 | .exit id',σ=>bif Nat.beq id' id then Φ .normal σ else Φ (.exit id') σ
 |e,σ=>Φ e σ
def noG (Φ:Exit→AS→Prop):Exit→AS→Prop
 | .goto _,_=>False
 |e,σ=>Φ e σ
theorem mM {p:Nat→Prop} (h:∃n,p n):∃n,p n∧∀m,p m→n≤m:=by
 obtain⟨n,e⟩:=h
 induction n using Nat.strongRecOn with
 |_ n ih=>
  grind
section
variable {P:Program} {C:Cx} {Φ:Exit→AS→Prop} {σ:AS}
theorem DP {x y:Code} (h:G3 P C x (nx (G3 P C y Φ) Φ) σ):G3 P C (.seq x y) Φ σ:=fun a w v=>
 wp_seq (wp_mono (h a w v) fun e a w ⟨σ',g,q⟩=>by
  cases e<;>first|exact g a w q|exact⟨σ',g,q⟩)
theorem aH {c:Operand} {x y:Code} (q:σ.eval c=some (.d (.v (.bool b)))) (g:b=true→G3 P C x Φ σ) (v:b=false→G3 P C y Φ σ):G3 P C (.cond c x y) Φ σ:=by
 rintro a w ⟨bm,gt,fp,e⟩
 exact wp_cond_split (e.eval q).val (fun h=>g h a w ⟨bm,gt,fp,e⟩) fun h=>v h a w ⟨bm,gt,fp,e⟩
theorem iX (h:P1 P C l.toArray Φ l σ):G3 P C (.region id l.toArray false) Φ σ:=fun a w e=>wp_region_lit (h a w e)
theorem sV (h:Φ .normal σ):G3 P C .skip Φ σ:=fun _ _ e=>wp_skip ⟨σ,h,e⟩
theorem mN {l:Nat} (h:Φ .normal σ):G3 P C (.label l) Φ σ:=fun _ _ e=>wp_label ⟨σ,h,e⟩
theorem sW (h:Φ (.exit id) σ):G3 P C (.exit id) Φ σ:=fun _ _ e=>wp_exit ⟨σ,h,e⟩
theorem DQ (h:Φ .ret σ):G3 P C .ret Φ σ:=fun _ _ e=>wp_ret ⟨σ,h,e⟩
theorem mO (h:G3 P C c (inB id Φ) σ):G3 P C (.block id c) Φ σ:=fun a w B=>
 wp_block (wp_mono (h a w B) fun e a w ⟨σ',g,v⟩=>by
  cases e with
  |exit q=>
   simp only[inB] at g
   simp only[Exit.inBlock]
   cases A:Nat.beq q id with
   |true=>
    rw[A] at g
    rw[Aj (Aw A)]
    exact⟨σ',g,v⟩
   |false=>
    rw[A] at g
    rw[Ai (fun e=>by simp_all)]
    exact⟨σ',g,v⟩
  |_=>exact⟨σ',g,v⟩)
theorem mP (h:G3 P C c (noG Φ) σ):G3 P C (.scope c) Φ σ:=fun a w q=>
 wp_scope_straight (wp_mono (h a w q) fun e a w ⟨σ',g,v⟩=>by
  cases e<;>first|exact⟨σ',g,v⟩|exact g)
theorem I7 {g:Exit→AS→Prop} (h:G3 P C c Φ σ) (B:∀e σ,Φ e σ→g e σ):G3 P C c g σ:=fun a w v=>
 wp_mono (h a w v) fun e _ _ ⟨σ',q,A⟩=>⟨σ',B e σ' q,A⟩
theorem sX (I:Nat→AS→Prop) (n:Nat) (R:I n σ) (q:∀n σ,I n σ→G3 P C c (nx (fun σ'=>∃m,m<n∧I m σ') Φ) σ):G3 P C (.loop c) Φ σ:=by
 classical
 intro a w O
 let J:Act→World→Prop:=fun a w=>∃n σ,I n σ∧G C σ a w
 let B:Act→World→Nat:=fun a w=>if h:J a w then Classical.choose (mM (p:=fun n=>∃σ,I n σ∧G C σ a w) h) else 0
 refine wp_loop J B ⟨n,σ,R,O⟩ ?_
 intro a w F
 have K:B a w=Classical.choose (mM (p:=fun n=>∃σ,I n σ∧G C σ a w) F):=D0 F
 obtain⟨⟨H,E,A⟩,_⟩:=Classical.choose_spec (mM (p:=fun n=>∃σ,I n σ∧G C σ a w) F)
 refine wp_mono (q _ H E a w A) fun e v w' ⟨σ',M,L⟩=> ?_
 cases e with
 |normal=>
  obtain⟨m,Q,N⟩:=M
  have g:J v w':=⟨m,σ',N,L⟩
  refine⟨g,?_⟩
  rw[K]
  have:B v w'=Classical.choose (mM (p:=fun n=>∃σ,I n σ∧G C σ v w') g):=D0 g
  rw[this]
  exact Dd ((Classical.choose_spec (mM (p:=fun n=>∃σ,I n σ∧G C σ v w') g)).2 m ⟨σ',N,L⟩) Q
 |_=>exact⟨σ',M,L⟩
end
def cj (σ σ':AS):Prop:=
 (∀t u',lk t σ'.tm=some u'→∃u,lk t σ.tm=some u∧AV.le u u')∧(∀k cs',lk k σ'.bx=some cs'→∃cs,lk k σ.bx=some cs∧AV.les cs cs')∧∀k x,lk k σ'.tk=some x→lk k σ.tk=some x
theorem G.weak (h:G C σ a w) (B:cj σ σ'):G C σ' a w:=by
 obtain⟨bm,gt,fp,g⟩:=h
 refine⟨bm,gt,fp,{sz:=g.sz,nN:=g.nN,gd:=g.gd,za:=g.za,zb:=g.zb,zf:=g.zf,ztk:=fun k x q=>g.ztk k x (B.2.2 k _ q),df:=g.df,tm:=fun t O J=> ?_,bx:=fun k F q=> ?_,bxi:=fun k k' c c' q A U=> ?_,tk:=fun k n sz e q=>g.tk k n sz e (B.2.2 k _ q),tki:=fun k k' x T q A=>g.tki k k' x T (B.2.2 k _ q) (B.2.2 k' _ A),tkb:=fun k k' x c q A=> ?_,fpb:=g.fpb,fp0:=g.fp0,fpB:=g.fpB,bel:=g.bel}⟩
 ·obtain⟨u,E,I⟩:=B.1 t O J
  obtain⟨v,L,M⟩:=g.tm t u E
  exact⟨v,L,RA.le g.zf I M⟩
 ·obtain⟨cs,E,I⟩:=B.2.1 k F q
  have K:=g.bx k cs E
  obtain⟨cur,e,L,M,Q⟩:=K.obj
  refine⟨K.own,K.un,cur,e,L,by rw[←Mr I];exact M,fun i u v J R=> ?_⟩
  have H:i<cs.length:=by rw[Mr I];exact(Ew.1 J).1
  exact RA.le g.zf (Q5 I i _ u (Ev H) J) (Q i _ v (Ev H) R)
 ·obtain⟨cs,E,_⟩:=B.2.1 k c q
  obtain⟨F,N,_⟩:=B.2.1 k' c' A
  exact g.bxi k k' cs F E N U
 ·obtain⟨cs,E,_⟩:=B.2.1 k' c A
  exact g.tkb k k' x cs (B.2.2 k _ q) E
def wkT (σ:AS):List (Nat×AV)→Prop
 |[]=>True
 |(t,u')::r=>(∃u,lk t σ.tm=some u∧AV.le u u')∧wkT σ r
def wkB (σ:AS):List (Nat×List AV)→Prop
 |[]=>True
 |(k,cs')::r=>(∃cs,lk k σ.bx=some cs∧AV.les cs cs')∧wkB σ r
def wkK (σ:AS):List (Nat×Nat×Nat×TypeId)→Prop
 |[]=>True
 |(k,x)::r=>lk k σ.tk=some x∧wkK σ r
theorem JP {σ:AS} {t:Nat} {g:AV}:∀{l:List (Nat×AV)},wkT σ l→lk t l=some g→∃u,lk t σ.tm=some u∧AV.le u g
 |[],_,h=>by cases h
 |(k,c)::r,hw,h=>by
  simp only[lk] at h
  cases e:Nat.beq k t with
  |true=>rw[e] at h;cases h;obtain rfl:=Aw e;exact hw.1
  |false=>rw[e] at h;exact JP hw.2 h
theorem JQ {σ:AS} {t:Nat} {g:List AV}:∀{l:List (Nat×List AV)},wkB σ l→lk t l=some g→∃u,lk t σ.bx=some u∧AV.les u g
 |[],_,h=>by cases h
 |(k,c)::r,hw,h=>by
  simp only[lk] at h
  cases e:Nat.beq k t with
  |true=>rw[e] at h;cases h;obtain rfl:=Aw e;exact hw.1
  |false=>rw[e] at h;exact JQ hw.2 h
theorem JR {σ:AS} {t:Nat} {g:Nat×Nat×TypeId}:∀{l:List (Nat×Nat×Nat×TypeId)},wkK σ l→lk t l=some g→lk t σ.tk=some g
 |[],_,h=>by cases h
 |(k,c)::r,hw,h=>by
  simp only[lk] at h
  cases e:Nat.beq k t with
  |true=>rw[e] at h;cases h;obtain rfl:=Aw e;exact hw.1
  |false=>rw[e] at h;exact JR hw.2 h
theorem UB (e:wkT σ σ'.tm) (g:wkB σ σ'.bx) (q:wkK σ σ'.tk):cj σ σ':=⟨fun _ _ h=>JP e h,fun _ _ h=>JQ g h,fun _ _ h=>JR q h⟩
def xH (P:Program) (σ:AS):ResultVar→AV→Prop
 | .tmp t,u=>Nat.blt t 1000000=true∧lk t σ.tm=some u
 | .cell p ty,u=>Nat.blt p 1000000=true∧∃k off cs d z sz by',lk p σ.tm=some (.ptr k off)∧lk k σ.bx=some cs∧TyOk P ty d z sz by'∧((Om d=false∧cs[off]?=some u)∨(Om d=true∧∃us,(cs.drop off).take sz=us∧us.length=sz∧u= .agg us))
theorem GG.resAt (H:GG C bm gt fp σ a w) {r:ResultVar} (h:xH P σ r u):∃v,Kw P w a.tmps r v∧RA C.W.heap.size fp w bm gt u v:=by
 cases r with
 |tmp t=>
  obtain⟨v,A,I⟩:=H.tm t u h.2
  rw[Im (Xi h.1)] at A
  exact⟨v,by simp only[Kw,Array.getD_eq_getD_getElem?,A,Cu],I⟩
 |cell p ty=>
  obtain⟨R,k,off,cs,d,z,sz,by',A,I,V,T⟩:=h
  obtain⟨v,U,O⟩:=H.tm p _ A
  rw[Im (Xi R)] at U
  cases O with
  |ptr=>
   obtain⟨cur,e,L,N,M⟩:=(H.bx k cs I).obj
   rcases T with⟨K,B⟩|⟨K,us,B,F,rfl⟩
   ·have g:off<cur.size:=Ci (Ew.1 B).1 N
    refine⟨cur[off],⟨⟨bm k,off,none⟩,by simp_all,?_⟩,M off u _ B (Array.getElem?_eq_getElem g)⟩
    have W:w.cell? ⟨bm k,off,none⟩=some cur[off]:=by rw[cell_of_row w _ _ _ _ _ L];exact Array.getElem?_eq_getElem g
    unfold loadVar
    rw[Au,V.agg,K]
    simp_all
   ·obtain⟨vs,E⟩:∃vs,(cur.toList.drop off).take sz=vs:=⟨_,rfl⟩
    have q:vs.length=us.length:=by
     have Q:((cs.drop off).take sz).length=sz:=by rw[B];exact F
     rw[←E,F,Ec,Eh,Bm]
     rw[Ec,Eh] at Q
     omega
    have J:vs.length=sz:=by rw[q,F]
    refine⟨.agg vs.toArray,⟨⟨bm k,off,none⟩,by simp_all,?_⟩,.agg vs q fun i x y X Y=> ?_⟩
    ·grind [Mp,cell_of_row]
    grind
def Oo (P:Program) (σ:AS):List ResultVar→List AV→Prop
 |[],[]=>True
 |r::rs,u::us=>xH P σ r u∧Oo P σ rs us
 |_,_=>False
def single:List AV→AV
 |[u]=>u
 |us=> .tup us
inductive Fini (σ:AS):AV→AV→Prop
 |data {u r:AV} (h:r.data=true) (hl:AV.le u r):Fini σ u r
 |own {k n sz:Nat} {e:TypeId} {cs:List D} (h:lk k σ.tk=some (n,sz,e)):Fini σ (.own k n sz e cs) (.own 0 n sz e cs)
 |tup {k n sz:Nat} {e:TypeId} {cs:List D} {us rs:List AV} (h:lk k σ.tk=some (n,sz,e)) (hd:Ji rs=true) (hl:AV.les us rs):Fini σ (.tup (.own k n sz e cs::us)) (.tup (.own 0 n sz e cs::rs))
def UC (P:Program) (fn:Func) (Φ:AV→Prop) (σ:AS):Prop:=∃us,Oo P σ fn.results.toList us∧∃r,Fini σ (single us) r∧Φ r
def post (P:Program) (fn:Func) (Φ:AV→Prop):Exit→AS→Prop
 | .normal,σ=>UC P fn Φ σ
 | .ret,σ=>UC P fn Φ σ
 |_,_=>False
theorem eI {tmps:Array Value} {h q A:ResultVar} {v1 v2 B:Value} (I:fn.results=#[h,q,A]) (e:Kw P w tmps h v1) (v:Kw P w tmps q v2) (g:Kw P w tmps A B):(results fn tmps).run P w= .ok (.tuple #[v1,v2,B]) w:=by
 cases h<;>cases q<;>cases A<;>simp only[Kw] at e v g<;>
  (try obtain⟨H,e,J⟩:=e)<;>(try obtain⟨F,v,K⟩:=v)<;>(try obtain⟨E,g,k3⟩:=g)<;>
  simp[results,asAddr,Au,Result.andThen, *,-Array.getD_eq_getD_getElem?]
theorem iY {tmps:Array Value} {q v E A:ResultVar} {v1 v2 H F:Value} (N:fn.results=#[q,v,E,A]) (e:Kw P w tmps q v1) (B:Kw P w tmps v v2) (g:Kw P w tmps E H) (h:Kw P w tmps A F):(results fn tmps).run P w= .ok (.tuple #[v1,v2,H,F]) w:=by
 cases q<;>cases v<;>cases E<;>cases A<;>simp only[Kw] at e B g h<;>
  (try obtain⟨L,e,O⟩:=e)<;>(try obtain⟨K,B,Q⟩:=B)<;>(try obtain⟨J,g,k3⟩:=g)<;>(try obtain⟨I,h,M⟩:=h)<;>
  simp[results,asAddr,Au,Result.andThen, *,-Array.getD_eq_getD_getElem?]
theorem Si (g:GG C bm gt fp σ a w) (h:Oo P σ fn.results.toList us) (T:fn.results.size≤4):
 ∃v,(results fn a.tmps).run P w= .ok v w∧RA C.W.heap.size fp w bm gt (single us) v:=by
 have e:fn.results=fn.results.toList.toArray:=Ab
 have A:fn.results.toList.length≤4:=by simpa using T
 generalize fn.results.toList=l at h e A
 have q:∀{us:List AV} {vs:List Value},RAs C.W.heap.size fp w bm gt us vs→RA C.W.heap.size fp w bm gt (.tup us) (.tuple vs.toArray):=by
  intro us vs B
  have M:∀{us:List AV} {vs:List Value},RAs C.W.heap.size fp w bm gt us vs→vs.length=us.length∧∀(i:Nat) u v,us[i]?=some u→vs[i]?=some v→RA C.W.heap.size fp w bm gt u v:=by
   intro us
   induction us with
   |nil=>intro vs B;cases vs with|nil=>grind|cons=>exact B.elim
   |cons u us Q=>
    intro vs B
    cases vs with
    |nil=>exact B.elim
    |cons v vs=>
     obtain⟨O,W⟩:=Q B.2
     refine⟨by simp[O],fun i x y L N=> ?_⟩
     cases i with
     |zero=>simp at L N;subst L N;exact B.1
     |succ i=>grind
  exact .tup vs (M B).1 (M B).2
 match l,us,h with
 |[],[],_=>exact⟨_,results_none (by rw[e]) _ _ _,q (vs:=[]) trivial⟩
 |[r1],[u1],h=>
  obtain⟨v1,F,E⟩:=g.resAt h.1
  exact⟨v1,lX (by rw[e]) F,E⟩
 |[r1,r2],[u1,u2],h=>
  obtain⟨v1,F,E⟩:=g.resAt h.1
  obtain⟨v2,I,H⟩:=g.resAt h.2.1
  exact⟨_,Sf (by rw[e]) F I,q (vs:=[v1,v2]) ⟨E,H,trivial⟩⟩
 |[r1,r2,r3],[u1,u2,u3],h=>
  obtain⟨v1,F,E⟩:=g.resAt h.1
  obtain⟨v2,I,H⟩:=g.resAt h.2.1
  obtain⟨K,k3,J⟩:=g.resAt h.2.2.1
  exact⟨_,eI (by rw[e]) F I k3,q (vs:=[v1,v2,K]) ⟨E,H,J,trivial⟩⟩
 |[r1,r2,r3,r4],[u1,u2,u3,u4],h=>
  obtain⟨v1,F,E⟩:=g.resAt h.1
  obtain⟨v2,I,H⟩:=g.resAt h.2.1
  obtain⟨K,k3,J⟩:=g.resAt h.2.2.1
  obtain⟨R,U,V⟩:=g.resAt h.2.2.2.1
  exact⟨_,iY (by rw[e]) F I k3 U,q (vs:=[v1,v2,K,R]) ⟨E,H,J,V,trivial⟩⟩
 |[],_::_,h=>exact h.elim
 |_::_,[],h=>exact h.elim
 |[_],_::_::_,h=>exact h.2.elim
 |[_,_],[_],h=>exact h.2.elim
 |[_,_],_::_::_::_,h=>exact h.2.2.elim
 |[_,_,_],[_],h=>exact h.2.elim
 |[_,_,_],[_,_],h=>exact h.2.2.elim
 |[_,_,_],_::_::_::_::_,h=>exact h.2.2.2.elim
 |[_,_,_,_],[_],h=>exact h.2.elim
 |[_,_,_,_],[_,_],h=>exact h.2.2.elim
 |[_,_,_,_],[_,_,_],h=>exact h.2.2.2.elim
 |[_,_,_,_],_::_::_::_::_::_,h=>exact h.2.2.2.2.elim
 |_::_::_::_::_::_,_,_=>simp at A
def J4:Nat→List AV→List (Nat×AV)
 |_,[]=>[]
 |i,u::us=>(i,u)::J4 (i+1) us
theorem Xk {t:Nat} {u:AV}:∀(us:List AV) (i:Nat),lk t (J4 i us)=some u→i≤t∧us[t-i]?=some u
 |[],_,h=>by cases h
 |x::us,i,h=>by
  simp only[J4,lk] at h
  cases e:Nat.beq i t with
  |true=>simp_all
  |false=>
   rw[e] at h
   obtain⟨g,q⟩:=Xk us (i+1) h
   grind
theorem DR {args:List AV} {Φ:AV→Prop} (N:P.funcs[f]?=some fn) (he:∀U w,(callFunc f U).run P w= .ok (.enter f U) w) (hb:fn.body=some c) (hn:fn.results.size≤4) (hN:args.length≤fn.ntmps) (hN6:fn.ntmps≤1000000)
 (h:∀W fp0 H,G3 P ⟨W,fp0,fn.ntmps,fun _=>none,H⟩ c (post P fn Φ) ⟨J4 0 args,[],[]⟩):Es P f args Φ:=by
 refine⟨he,fun w fp0 H vs hgd T hz0 L=> ?_⟩
 have hl:∀{us:List AV} {vs:List Value},RAs w.heap.size fp0 w ⟨fun _=>0,H⟩ (fun _=>undef) us vs→vs.length=us.length∧∀(i:Nat) u,us[i]?=some u→∃v,vs[i]?=some v∧RA w.heap.size fp0 w ⟨fun _=>0,H⟩ (fun _=>undef) u v:=by
  intro us
  induction us with
  |nil=>intro vs L;cases vs with|nil=>grind|cons=>exact L.elim
  |cons u us ih=>
   intro vs L
   cases vs with
   |nil=>exact L.elim
   |cons v vs=>
    obtain⟨Z,Y⟩:=ih L.2
    refine⟨by simp[Z],fun i x O=> ?_⟩
    cases i with
    |zero=>simp at O;subst O;exact⟨v,rfl,L.1⟩
    |succ i=>
     grind
 obtain⟨hvl,hva⟩:=hl L
 refine calls_of_wp N hb ?_
 let C:Cx:=⟨w,fp0,fn.ntmps,fun _=>none,H⟩
 have hG:G C ⟨J4 0 args,[],[]⟩ {tmps:=vs.toArray++Array.replicate (fn.ntmps-vs.toArray.size) undef,defers:=[]} w:=by
  refine⟨⟨fun _=>0,H⟩,fun _=>undef,fp0,{sz:= ?_,nN:=hN6,gd:=hgd,za:=fun _ _ x=>x,zb:=fun _ _ x=> .inl x,zf:=hz0,ztk:=fun k x A=>(by cases A),df:=rfl,tm:=fun t u hu=> ?_,bx:=fun k cs A=>(by cases A),bxi:=fun k k' c c' A=>(by cases A),tk:=fun k n sz e A=>(by cases A),tki:=fun k k' x x' A=>(by cases A),tkb:=fun k k' x c A=>(by cases A),fpb:=fun b o N=>⟨.inl N,T b o N⟩,fp0:=fun _ _ N=>N,fpB:=T,bel:=Bq _ _}⟩
  ·show _=fn.ntmps
   simp;omega
  ·obtain⟨_,Y⟩:=Xk args 0 hu
   grind [Ew,Im,Array.getElem?_append_left]
 refine wp_mono (h w fp0 H _ w hG) fun e a w' ⟨σ',I,hG'⟩=> ?_
 obtain⟨bm,gt,fp,g⟩:=hG'
 have V:UC P fn Φ σ'→bodyPost P fn (fun e w'=>∃r v,e= .returned v∧Φ r∧Below w.heap.size w w'∧aG w fp0 H w' r v) .ret a w':=by
  rintro⟨us,Z,r,Y,h3⟩
  obtain⟨v,R,E⟩:=Si g Z hn
  refine⟨g.df,v,R,r,v,rfl,h3,g.bel,?_⟩
  generalize single us=u at Y E
  have own:∀{k n sz:Nat} {e:TypeId},lk k σ'.tk=some (n,sz,e)→TokOk w.heap.size fp w' (gt k) n sz e:=fun A=>g.tk _ _ _ _ A
  cases Y with
  |data M hl=>
   refine⟨?_,fp,gt,bm.z,g.fpb,(RA.le g.zf hl E).data (bm:=bm) (bm':=⟨fun _=>0,bm.z⟩) (fun _ _ x=>x) M,fun n sz e B=> ?_,g.za,g.zf,g.zb⟩
   ·match r,M with
    | .d _,_=>rfl
    | .agg _,h=>exact h
    | .tup [],h=>exact h
    | .tup (.d _::_),h=>exact h
    | .tup (.agg _::_),h=>exact h
    | .tup (.tup _::_),h=>exact h
    | .tup (.sem _::_),h=>exact h
    | .tup (.cl _ _ _::_),h=>exact h
    | .sem _,_=>rfl
    | .cl _ _ _,h=>exact h
   ·match r,M with
    | .d _,_=>cases B
    | .agg _,h=>cases B
    | .tup [],h=>cases B
    | .tup (.d _::_),h=>cases B
    | .tup (.agg _::_),h=>cases B
    | .tup (.tup _::_),h=>cases B
    | .tup (.sem _::_),h=>cases B
    | .tup (.cl _ _ _::_),h=>cases B
    | .sem _,_=>cases B
    | .cl _ _ _,h=>cases B
  |@own k n sz e cs A=>
   refine⟨rfl,fp,fun _=>gt k,bm.z,g.fpb,?_,fun n' sz' e' B=>by cases B;exact⟨own A,g.ztk k _ A⟩,g.za,g.zf,g.zb⟩
   cases E with|own E=>exact .own (gt:=fun _=>gt k) (k:=0) E
  |@tup k n sz e cs us rs A M K=>
   refine⟨M,fp,fun _=>gt k,bm.z,g.fpb,?_,fun n' sz' e' B=>by cases B;exact⟨own A,g.ztk k _ A⟩,g.za,g.zf,g.zb⟩
   cases E with
   |tup vs' h4 h7=>
    refine .tup vs' (by simpa[Mr K] using h4) fun i x y O hy=> ?_
    cases i with
    |zero=>
     simp at O
     subst O
     have Q:=h7 0 _ y rfl hy
     generalize F:AV.own k n sz e cs=q at Q
     cases Q with
     |own Q=>cases F;exact .own (gt:=fun _=>gt k) (k:=0) Q
     |d=>cases F
     |ptr=>cases F
     |agg=>cases F
     |tup=>cases F
     |sem=>cases F
     |cl=>cases F
     |pk=>cases F
    |succ i=>
     have J:rs[i]?=some x:=by simpa using O
     have X:i<us.length:=by rw[Mr K];exact(Ew.1 J).1
     have Q:=h7 (i+1) us[i] y (by simp[X]) hy
     exact(RA.le g.zf (Q5 K i _ x (Ev X) J) Q).data (bm:=bm) (bm':=⟨fun _=>0,bm.z⟩) (fun _ _ x=>x) (Js M J)
 cases e with
 |normal=>exact V I
 |ret=>exact V I
 |_=>exact I.elim
theorem P2 (g:P.funcs[f]?=some fn) (e:(fn.name== "runtime.NumGoroutine")=false) (h:fn.body=some c) (args:Array Value) (w:World):(callFunc f args).run P w= .ok (.enter f args) w:=by
 simp only[callFunc,program,Au,Sem.run,A6,g,e,h]
 rfl
theorem G.learn {c:Bool} (q:lk t σ.tm=some (.d (.v (.bool c)))) (g:c=d) (h:G C σ a w):G C (σ.put t (.d (.v (.bool d)))) a w:=by
 subst g
 refine h.weak ⟨fun s u v=>⟨u,?_,.refl u⟩,fun k cs e=>⟨cs,e,Ln cs⟩,fun k x e=>e⟩
 grind [AS.put_tm,F1,Gm]
theorem sY {c:Bool} (q:lk t σ.tm=some (.d (.v (.bool c)))) (g:c=d) (e:P1 P C ops Φ l (σ.put t (.d (.v (.bool d))))):P1 P C ops Φ l σ:=
 fun a w h=>e a w (h.learn q g)
theorem Yo {x:Code} {c:Bool} (q:lk t σ.tm=some (.d (.v (.bool c)))) (g:c=d) (e:G3 P C x Φ (σ.put t (.d (.v (.bool d))))):G3 P C x Φ σ:=
 fun a w h=>e a w (h.learn q g)
theorem Vu (off:Nat):∀(l:List Value) (k:Nat) (e:Array Value),off+k+l.length≤e.size→
 ((l.zipIdx k).foldl (fun cs p=>cs.setIfInBounds (off+p.2) p.1) e).toList=Kg e.toList (off+k) l
 |[],k,e,_=>by simp[Kg]
 |c::r,k,e,h=>by
  simp only[D9] at h
  simp only[List.zipIdx_cons,Do]
  rw[Vu off r (k+1) _ Af,Array.toList_setIfInBounds]
  have g:off+k+(r.length+1)≤e.toList.length:=by rw[Bm];omega
  generalize e.toList=l at g
  apply List.ext_getElem?
  intro i
  rw[Q3 (by rw[List.length_set];omega),Q3 (by rw[D9];omega),List.getElem?_set,D9]
  grind
def L3 (place:Nat→Option (Nat×Nat)):List AV→List (Nat×AV)→Option (List AV)
 |cs,[]=>some cs
 |cs,(i,u)::r=>match place i with
  |none=>none
  |some (off,sz)=>match u.flat&&Nat.beq u.cells.length sz&&Nat.ble (off+sz) cs.length with
   |true=>L3 place (Kg cs off u.cells) r
   |false=>none
def evP (σ:AS):List (Nat×Operand)→Option (List (Nat×AV))
 |[]=>some []
 |(i,x)::r=>match σ.eval x,evP σ r with
  |some u,some us=>some ((i,u)::us)
  |_,_=>none
theorem Vv {B:Nat} {fp:Nat→Nat→Prop} {w:World} {bm:BM} {gt:Nat→Value} {E:Nat→Option (Nat×Nat)}:∀(ps:List (Nat×AV)) (vs:List (Nat×Value)) (cs us:List AV) (e:Array Value),L3 E cs ps=some us→
 vs.length=ps.length→(∀(j:Nat) p q,ps[j]?=some p→vs[j]?=some q→p.1=q.1∧RA B fp w bm gt p.2 q.2)→e.size=cs.length→(∀(i:Nat) x y,cs[i]?=some x→e[i]?=some y→RA B fp w bm gt x y)→
 ∃g,Instr.fill E e vs=some g∧g.size=us.length∧∀(i:Nat) x y,us[i]?=some x→g[i]?=some y→RA B fp w bm gt x y
 |[],vs,cs,us,e,h,hl,_,hc,hr=>by
  cases vs with
  |nil=>cases h;exact⟨e,rfl,hc,hr⟩
  |cons=>simp at hl
 |(i,u)::r,vs,cs,us,e,h,hl,hp,hc,hr=>by
  cases vs with
  |nil=>simp at hl
  |cons q vs=>
   obtain⟨Y,v⟩:=q
   obtain⟨R,Q⟩:=hp 0 (i,u) (Y,v) rfl rfl
   simp only at R Q
   subst R
   unfold L3 at h
   cases I:E i with
   |none=>rw[I] at h;cases h
   |some os=>
    obtain⟨off,sz⟩:=os
    rw[I] at h
    simp only at h
    cases A:(u.flat&&Nat.beq u.cells.length sz&&Nat.ble (off+sz) cs.length) with
    |false=>rw[A] at h;cases h
    |true=>
     rw[A] at h
     simp only[Et] at A
     obtain⟨⟨V,H⟩,K⟩:=A
     have H:=Aw H
     have K:=Ay K
     obtain⟨L,W,k3⟩:=Q.cells V
     have T:v.cells.size=sz:=by rw[←Bm,L,H]
     have F:=Vu off v.cells.toList 0 e (by rw[Nat.add_zero,L,H,hc];exact K)
     rw[Nat.add_zero] at F
     obtain⟨g,Z,X,U⟩:=Vv r vs (Kg cs off u.cells) us (v.cells.zipIdx.foldl (fun cs (c,j)=>cs.setIfInBounds (off+j) c) e) h (by simpa using hl) (fun j p q O N=>hp (j+1) p q (by simpa using O) (by simpa using N)) (by
      grind [Array.length_toList,Array.toList_zipIdx,Mo]) (fun i x y M J=>by
      rw[←Cg,←Array.foldl_toList,Array.toList_zipIdx,F] at J
      exact aE (Nat.le_of_eq (hc.symm.trans Array.length_toList.symm)) L (by rw[H];exact K) (fun i x y M J=>hr i x y M (by simpa using J)) W i x y M J)
     refine⟨g,?_,X,U⟩
     unfold Instr.fill
     grind
theorem GG.evP {C:Cx} {bm:BM} {gt:Nat→Value} {fp:Nat→Nat→Prop} {σ:AS} {a:Act} {w:World} (h:GG C bm gt fp σ a w):∀{l:List (Nat×Operand)} {us:List (Nat×AV)},evP σ l=some us→(l.map fun p=>(p.1,a.eval p.2)).length=us.length∧∀(j:Nat) p q,us[j]?=some p→(l.map fun p=>(p.1,a.eval p.2))[j]?=some q→p.1=q.1∧RA C.W.heap.size fp w bm gt p.2 q.2
 |[],us,hl=>by cases hl;grind
 |(i,x)::r,us,hl=>by
  unfold Proofs.YtbedjionhmaafaaGreatDoor.evP at hl
  split at hl
  ·rename_i u A v E
   cases hl
   obtain⟨B,F⟩:=GG.evP h E
   refine⟨by simpa using B,fun j p q e g=> ?_⟩
   cases j with
   |zero=>simp at e g;subst e g;exact⟨rfl,h.eval v⟩
   |succ j=>grind
  ·cases hl
theorem ltN (h:Nat.blt t n=true):t<n:=Ay h
theorem leN (h:Nat.ble t n=true):t≤n:=Ay h
theorem JS {ty:TypeId} {d:TypeDesc} (A:Nat.blt p 1000000=true) (e:lk p σ.tm=some (.ptr k off)) (v:lk k σ.bx=some cs) (g:TyOk P ty d z sz by') (h:Om d=false) (q:cs[off]?=some u):xH P σ (.cell p ty) u:=
 ⟨A,k,off,cs,d,z,sz,by',e,v,g,.inl ⟨h,q⟩⟩
theorem DS {ty:TypeId} {d:TypeDesc} (B:Nat.blt p 1000000=true) (e:lk p σ.tm=some (.ptr k off)) (A:lk k σ.bx=some cs) (g:TyOk P ty d z sz by') (h:Om d=true) (q:(cs.drop off).take sz=us) (v:us.length=sz):xH P σ (.cell p ty) (.agg us):=
 ⟨B,k,off,cs,d,z,sz,by',e,A,g,.inr ⟨h,us,q,v,rfl⟩⟩
structure StrOk (P:Program) (t:TypeId) (pl:List (Nat×Nat)):Prop where
 ex:∃fs:Array Field,P.underlying t=some (.struct fs)∧∀w,(fs.mapM fun f=>do pure (f.offset,←sizeOf f.type):Sem (Array (Nat×Nat))).run P w= .ok pl.toArray w
def Nv:List AV→Option (List D)
 |[]=>some []
 | .d x::r=>match Nv r with
   |some l=>some (x::l)
   |none=>none
 | .own _ n sz _ cs::r=>match Nv r with
   |some l=>some (.sl true n sz cs::l)
   |none=>none
 |_::_=>none
theorem Tf {B:Nat} {fp:Nat→Nat→Prop} {w:World} {bm:BM} {gt:Nat→Value}:∀{us:List AV} {ds:List D},Nv us=some ds→ds.length=us.length∧∀(i:Nat) x d v,us[i]?=some x→ds[i]?=some d→RA B fp w bm gt x v→Rd B fp w d v
 |[],ds,h=>by cases h;grind
 | .d x::r,ds,h=>by
   unfold Nv at h
   split at h
   ·rename_i l E
    cases h
    obtain⟨F,I⟩:=Tf (B:=B) (fp:=fp) (w:=w) (bm:=bm) (gt:=gt) E
    refine⟨by simp[F],fun i H d v q A g=> ?_⟩
    cases i with
    |zero=>simp at q A;subst q A;cases g with|d g=>exact g
    |succ i=>grind
   ·cases h
 | .own k n sz e cs::r,ds,h=>by
   unfold Nv at h
   split at h
   ·rename_i l E
    cases h
    obtain⟨F,I⟩:=Tf (B:=B) (fp:=fp) (w:=w) (bm:=bm) (gt:=gt) E
    refine⟨by simp[F],fun i H d v q A g=> ?_⟩
    cases i with
    |zero=>simp at q A;subst q A;cases g with|own g=>exact g
    |succ i=>grind
   ·cases h
 | .ptr _ _::_,_,h=>by cases h
 | .agg _::_,_,h=>by cases h
 | .tup _::_,_,h=>by cases h
section
variable {P:Program} {C:Cx} {o:Oper} {σ:AS} {t:Nat}
theorem sZ {ty:TypeId} {h:List (Nat×Nat)} {d:TypeDesc} {us:List (Nat×AV)} (I:o.op= .build ty ps) (L:o.dst=some t) (J:t<C.N) (Q:TyOk P ty d z sz by') (V:StrOk P ty h) (E:z.cells.toList.map (fun x=>AV.d (.v x))=zs)
 (M:evP σ ps.toList=some us) (H:L3 (fun i:Nat=>h[i]?) zs us=some cs):Fp P C o σ (σ.put t (.agg cs)):=
 E1 L J fun a w bm gt fp R=>by
  obtain⟨K,T⟩:=R.evP M
  obtain⟨e,F,U,N⟩:=Vv us _ zs cs z.cells H K T (by rw[←E];simp) (fun i x y g A=>by
   rw[←E,Bk] at g
   simp only[Cg,A,Ch,A7] at g
   subst g
   exact .d (.v _))
  obtain⟨fs,O,B⟩:=V.ex
  refine⟨.agg e,?_,?_⟩
  ·simp only[execOp,I,Instr.build]
   have v:(ps.map fun p=>(p.1,a.eval p.2)).toList=ps.toList.map fun p=>(p.1,a.eval p.2):=Ab
   have q:(fun i:Nat=>h.toArray[i]?)=fun i:Nat=>h[i]?:=by funext i;simp
   simp only[Au,Bs,A6,Q.zero,Bf O,B,v,q,F]
  ·have:e=e.toList.toArray:=by simp
   rw[this]
   exact .agg _ (by rw[Bm,U]) fun i x y g A=>N i x y g (by simpa using A)
theorem DT {st e:TypeId} {d:TypeDesc} {zS:Value} {s2 b2:Nat} {us:List (Nat×AV)} (ho:o.op= .buildSlice st n ps) (hd:o.dst=some t) (ht:t<C.N) (hT:TyOk P st (.slice e) zS s2 b2) (hE:TyOk P e d z sz by')
 (hp:evP σ ps.toList=some us) (hf:L3 (fun i=>some (i*sz,sz)) ((List.range (n*sz)).map fun i=>AV.d (.v (z.cells[i%z.cells.size]!))) us=some cs) (hds:Nv cs=some ds) (hone:aD cs=true) (hn:n*sz≤1000) (hn2:n≤1000) (hc:σ.clean κ=true):
 Fp P C o σ ⟨(t,.own κ n sz e ds)::σ.tm,σ.bx,(κ,n,sz,e)::σ.tk⟩:=by
 rintro a w ⟨bm,gt,fp,hg⟩ K Q hK
 obtain⟨k1,k2⟩:=hg.evP hp
 obtain⟨zc,hzc⟩:∃zc:Array Value,(if n*sz=0 then #[] else z.cells)=zc:=⟨_,rfl⟩
 obtain⟨c0,hc0⟩:∃c0:Array Value,(Array.range (n*sz)).map (fun i=>zc[i%zc.size]!)=c0:=⟨_,rfl⟩
 have hc0l:c0.toList=(List.range (n*sz)).map fun i=>z.cells[i%z.cells.size]!:=by
  rw[←hc0]
  by_cases h0:n*sz=0
  ·simp[h0]
  ·rw[Ai h0] at hzc
   subst hzc
   simp[Array.toList_range]
 obtain⟨cells',h1,h2,h3⟩:=Vv us _ _ cs c0 hf k1 k2 (by grind) (fun i x y hx hy=>by
  rw[←Cg,hc0l] at hy
  rw[Bk,A8] at hx
  obtain⟨j,hj,rfl⟩:=hx
  rw[Bk,hj] at hy
  simp only[Ch,A7] at hy
  subst hy
  exact .d (.v _))
 obtain⟨q1,q2⟩:=Tf (B:=C.W.heap.size) (fp:=fp) (w:=w) (bm:=bm) (gt:=gt) hds
 have hcl:cells'.size=n*sz:=by
  have:us.length=us.length:=rfl
  have hfl:∀(ps:List (Nat×AV)) (cs us:List AV),L3 (fun i=>some (i*sz,sz)) cs ps=some us→us.length=cs.length:=by
   intro ps
   induction ps with
   |nil=>intro cs us h;cases h;rfl
   |cons p r ih=>
    intro cs us h
    obtain⟨i,u⟩:=p
    unfold L3 at h
    simp only at h
    cases hcond:(u.flat&&Nat.beq u.cells.length sz&&Nat.ble (i*sz+sz) cs.length) with
    |false=>rw[hcond] at h;cases h
    |true=>
     rw[hcond] at h
     simp only[Et] at hcond
     grind [Mo,Nat.eq_of_beq_eq_true,Nat.le_of_ble_eq_true]
  rw[h2,hfl _ _ _ hf];simp
 have hrun:(execOp a.eval o).run P w= .ok (.value (.slice (some ⟨w.heap.size,0,none⟩) n n)) (w.alloc (.cells cells' e)):=by
  simp only[execOp,ho,Instr.buildSlice]
  have hps:(ps.map fun p=>(p.1,a.eval p.2)).toList=ps.toList.map fun p=>(p.1,a.eval p.2):=Ab
  have hlim:¬(n*sz>2^24):=Aa
  simp only[Au,Bs,A6,hT.und,hE.size,Ai hlim]
  by_cases h0:n*sz=0
  ·rw[Aj h0] at hzc
   subst hzc
   simp only[Aj h0,Au,Bs,A6,hps,hc0,h1,newRow,newObj,Sem.run]
   simp[go_sem]
  ·rw[Ai h0] at hzc
   subst hzc
   simp only[Ai h0,Au,Bs,A6,hE.zero,hps,hc0,h1,newRow,newObj,Sem.run]
   simp[go_sem]
 unfold Oper.wp
 rw[hrun,Oper.upon_value,hd]
 have hA:=hg.adopt hc sz e
 have hb:Below w.heap.size w (w.alloc (.cells cells' e)):=(Bq _ _).alloc (At _) _
 have hobj:(w.alloc (.cells cells' e)).heap[w.heap.size]?=some (.cells cells' e (0,0)):=heap_alloc_new w _
 have hown:(w.alloc (.cells cells' e)).ownsRow C.W.heap.size e sz (.slice (some ⟨w.heap.size,0,none⟩) n n) n (cells'.toList.take (n*sz)):=
  ⟨by grind,.inr ⟨w.heap.size,n,cells',rfl,hg.bel.size,hobj,At _,by unfold maxLen;omega,hcl,rfl⟩⟩
 have h4:=hA.retok (k:=κ) (n':=n) (v':= .slice (some ⟨w.heap.size,0,none⟩) n n) (F1 _ _ _) hb.size (hg.bel.trans (hb.mono hg.bel.size)) (fun j hj _=>hb.block j hj) (fun g o hg' _=>by rw[Gk] at hg';cases hg') ⟨_,hown⟩ (fun g hg'=> .inr (by grind [Value.ownBlock,Option.some.injEq]))
 simp only[AS.clean,Et] at hc
 simp only[Te hc.1,Qe hc.2] at h4
 have hup:∀j,Nh (Nh gt κ (.slice none 0 0)) κ (.slice (some ⟨w.heap.size,0,none⟩) n n) j=Nh gt κ (.slice (some ⟨w.heap.size,0,none⟩) n n) j:=fun j=>by unfold Nh;split<;>rfl
 have hup':Nh (Nh gt κ (.slice none 0 0)) κ (.slice (some ⟨w.heap.size,0,none⟩) n n) κ= .slice (some ⟨w.heap.size,0,none⟩) n n:=by rw[hup,Gk]
 have hR:RA C.W.heap.size (fun b o=>fp b o∨((Value.slice (some ⟨w.heap.size,0,none⟩) n n).ownBlock=some b∧o<n*sz)) (w.alloc (.cells cells' e)) bm (Nh (Nh gt κ (.slice none 0 0)) κ (.slice (some ⟨w.heap.size,0,none⟩) n n)) (.own κ n sz e ds) (.slice (some ⟨w.heap.size,0,none⟩) n n):=by
  have hcell:∀b o,fp b o→(w.alloc (.cells cells' e)).cell? ⟨b,o,none⟩=w.cell? ⟨b,o,none⟩:=fun b o hf=>hb.cell (p:=⟨b,o,none⟩) (hg.fpb b o hf).2
  conv=>rhs;rw[←hup']
  refine .own ?_
  rw[hup']
  refine fJ hg.bel.size hobj (At _) (by unfold maxLen;omega) hcl (by rw[q1,←h2,hcl]) (fun o ho=> .inr ⟨rfl,ho⟩) (fun i d v hd' hv=> ?_) (fun i v hi hv=> ?_)
  ·have hlt:i<cs.length:=by rw[←q1];exact(Ew.1 hd').1
   have hx:=Ev hlt
   exact(q2 i _ d v hx hd' (h3 i _ v hx hv)).keep (At _) (fun _ _ x=> .inl x) hcell
  ·have hlt:i<cs.length:=by rw[←h2,hcl];exact hi
   have hx:=Ev hlt
   exact(h3 i _ v hx hv).oneCell (Vt hone hx)
 obtain⟨bm',gt2,fp2,hG2⟩:G C ⟨(t,.own κ n sz e ds)::σ.tm,σ.bx,(κ,n,sz,e)::(κ,0,sz,e)::σ.tk⟩ (a.put (some t) (.slice (some ⟨w.heap.size,0,none⟩) n n)) (w.alloc (.cells cells' e)):=⟨_,_,_,h4.put (t:=t) ht hR⟩
 refine hK _ _ ⟨bm',gt2,fp2,{hG2 with tk:=fun j n' s' e' hj=> ?_,tki:=fun j j' x x' hj hj'=> ?_,tkb:=fun j j' x c hj=> ?_,ztk:=fun j x hj=> ?_}⟩
 all_goals
  have drop:∀j (x:Nat×Nat×TypeId),lk j ((κ,n,sz,e)::σ.tk)=some x→lk j ((κ,n,sz,e)::(κ,0,sz,e)::σ.tk)=some x:=fun j x hj=>by
   grind [F1,Gm]
 ·exact hG2.ztk j x (drop j x hj)
 ·exact hG2.tk j n' s' e' (drop j _ hj)
 ·exact hG2.tki j j' x x' (drop j x hj) (drop j' x' hj')
 ·exact hG2.tkb j j' x c (drop j x hj)
end
structure It where
 rb:List Nat
 tm:Option (Nat×AV)
 bx:Option (Nat×List AV)
 tk:Option (Nat×Nat×Nat×TypeId)
 cr:List Nat
 mt:List (Nat×AV)
 mb:List (Nat×List AV)
 ex:List Nat
variable {it:It} {its:List It}
def oc {α:Type}:Option α→List α→List α
 |some x,l=>x::l
 |none,l=>l
def AS.add (σ:AS) (it:It):AS:=⟨oc it.tm (it.mt++σ.tm),oc it.bx (it.mb++σ.bx),oc it.tk σ.tk⟩
def It.lT (it:It):List (Nat×AV):=oc it.tm it.mt
def It.lB (it:It):List (Nat×List AV):=oc it.bx it.mb
def It.lK (it:It):List (Nat×Nat×Nat×TypeId):=oc it.tk []
def kl {β:Type}:List (Nat×β)→List Nat
 |[]=>[]
 |(k,_)::r=>k::kl r
def Jo (t:Nat):List Nat→Bool
 |[]=>false
 |s::r=>Nat.beq s t||Jo t r
def exT (id:Nat) (ks:List Nat):List (Nat×AV)→Bool
 |[]=>true
 |(k,u)::r=>(Jo k ks||u.clean id)&&exT id ks r
def exB (id:Nat) (ks:List Nat):List (Nat×List AV)→Bool
 |[]=>true
 |(k,c)::r=>(Jo k ks||Fu id c)&&exB id ks r
def clX (it:It) (id:Nat) (tm:List (Nat×AV)) (bx:List (Nat×List AV)):Bool:=exT id (kl it.lT) tm&&exB id (kl it.lB) bx
theorem UD {e:List Nat} {l m:List (Nat×AV)} (g:exT id e l=true) (q:exT id e m=true):exT id e (l++m)=true:=by
 induction l with
 |nil=>exact q
 |cons p r h=>
  obtain⟨k,u⟩:=p
  simp only[exT,Ak,Et] at*
  exact⟨g.1,h g.2⟩
theorem UE {e:List Nat} {l m:List (Nat×List AV)} (g:exB id e l=true) (q:exB id e m=true):exB id e (l++m)=true:=by
 induction l with
 |nil=>exact q
 |cons p r h=>
  obtain⟨k,u⟩:=p
  simp only[exB,Ak,Et] at*
  exact⟨g.1,h g.2⟩
theorem xI {id:Nat} {e:List Nat} {t:Nat} {u:AV}:∀{l:List (Nat×AV)},exT id e l=true→lk t l=some u→Jo t e=true∨u.clean id=true
 |[],_,h=>by cases h
 |(k,v)::r,h1,h=>by
  simp only[exT,Et,Co] at h1
  simp only[lk] at h
  cases g:Nat.beq k t with
  |true=>
   simp_all
  |false=>rw[g] at h;exact xI h1.2 h
theorem xJ {id:Nat} {e:List Nat} {t:Nat} {u:List AV}:∀{l:List (Nat×List AV)},exB id e l=true→lk t l=some u→Jo t e=true∨Fu id u=true
 |[],_,h=>by cases h
 |(k,v)::r,h1,h=>by
  simp only[exB,Et,Co] at h1
  simp only[lk] at h
  cases g:Nat.beq k t with
  |true=>
   simp_all
  |false=>rw[g] at h;exact xJ h1.2 h
theorem Qf (t:Nat) (l m:List (Nat×β)):lk t (l++m)=match lk t l with|some u=>some u|none=>lk t m:=by
 induction l with
 |nil=>rfl
 |cons p r e=>
  grind [lk,Nat.beq]
theorem Vw {β:Type} {t:Nat} {u:β}:∀{l:List (Nat×β)},lk t l=some u→t∈kl l
 |[],h=>by cases h
 |(k,v)::r,h=>by
  simp only[lk] at h
  cases e:Nat.beq k t with
  |true=>obtain rfl:=Aw e;simp[kl]
  |false=>rw[e] at h;exact Be _ (Vw h)
theorem mQ {β:Type} {t:Nat}:∀{l:List (Nat×β)},t∈kl l→∃u,lk t l=some u
 |[],h=>by cases h
 |(k,v)::r,h=>by
  simp only[lk]
  cases e:Nat.beq k t with
  |true=>exact⟨v,rfl⟩
  |false=>
   rcases Bj.1 h with rfl|h
   ·simp at e
   ·exact mQ h
theorem Up (σ:AS) (it:It):(σ.add it).tm=it.lT++σ.tm:=by unfold AS.add It.lT;cases it.tm<;>rfl
theorem Xl (σ:AS) (it:It):(σ.add it).bx=it.lB++σ.bx:=by unfold AS.add It.lB;cases it.bx<;>rfl
theorem tA (σ:AS) (it:It):(σ.add it).tk=it.lK++σ.tk:=by unfold AS.add It.lK;cases it.tk<;>rfl
def AS.addAll (σ:AS):List It→AS
 |[]=>σ
 |it::r=>(σ.add it).addAll r
def opT:List Operand→List Nat
 |[]=>[]
 | .tmp t::r=>t::opT r
 |_::r=>opT r
def rdT (ops:Array Oper) (o:Oper):List Nat:=opT o.op.operands.toList++(match o.guard with
 |some (j,_)=>match ops[j]? with
  |some oj=>match oj.dst with
   |some t=>[t]
   |none=>[]
  |none=>[]
 |none=>[])
def AgT (o:Oper) (σ σk:AS):Prop:=∀x∈o.op.operands.toList,σ.eval x=σk.eval x
structure AgB (it:It) (σ σk:AS):Prop where
 rb:∀b∈it.rb,lk b σ.bx=lk b σk.bx
 mt:∀t∈kl it.lT,lk t σ.tm=lk t σk.tm
 mb:∀b∈kl it.lB,lk b σ.bx=lk b σk.bx
 tk:∀k∈it.ex,lk k σ.tk=lk k σk.tk
 cx:∀k∈it.ex,clX it k σ.tm σ.bx=true
def ClA (l:List Nat) (σ:AS):Prop:=∀id∈l,σ.clean id=true
def LA (P:Program) (C:Cx) (o:Oper) (it:It) (σk:AS):Prop:=∀σ,AgT o σ σk→AgB it σ σk→ClA it.cr σ→Fp P C o σ (σ.add it)
def Ui (P:Program) (C:Cx) (ops:Array Oper) (o:Oper) (it:It) (σk:AS):Prop:=
 ∀σ,(∀t∈rdT ops o,lk t σ.tm=lk t σk.tm)→AgB it σ σk→ClA it.cr σ→∀a w,G C σ a w→∀(K:Act→World→Prop) Q,(∀a' w',G C (σ.add it) a' w'→K a' w')→wpList P ops (Exit.then K Q) [o] a w
theorem UF (l:List Operand) (h:Operand.tmp t∈l):t∈opT l:=by
 induction l with
 |nil=>simp at h
 |cons x r g=>
  rcases Bj.1 h with e|e
  ·subst e;simp[opT]
  ·clear h
   cases x<;>simp only[opT]<;>first|exact Be _ (g e)|exact g e
theorem JT {e:AS} (h:∀t∈rdT ops o,lk t σ.tm=lk t e.tm):AgT o σ e:=by
 intro x q
 cases x with
 |tmp t=>exact Cf (fun x=>bif Nat.blt t 1000000 then x else none) (h t (List.mem_append_left _ (UF _ q)))
 |const v=>rfl
 |func f=>rfl
 |global g=>rfl
section
variable {P:Program} {C:Cx} {ops:Array Oper} {o:Oper} {σ:AS} {it:It} {t:Nat}
theorem DU (E:o.guard=none) (h:LA P C o it σ):Ui P C ops o it σ:=fun σ' A F B a w H K Q g=>by
 refine wpList_plain E fun I e=> ?_
 exact h σ' (JT A) F B a w H I _ fun q w' v=>e _ _ (g q w' v)
theorem DV (B:o.guard=some (j,b)) (v:ops[j]?=some oj) (F:oj.dst=some s) (R:lk s σ.tm=some (.d (.v (.bool b)))) (e:s<1000000) (h:LA P C o it σ):Ui P C ops o it σ:=fun σ' A N M a w E K Q H=>by
 have q:lk s σ'.tm=some (.d (.v (.bool b))):=(A s (by simp[rdT,B,v,F])).trans R
 have L:=Mm E v F q e
 refine wpList_step fun O g=> ?_
 rw[Aj (by simp[Region.wanted,B,L])]
 exact h σ' (JT A) N M a w E O _ fun I w' J=>g _ _ (H I w' J)
theorem JU {c:Bool} (v:o.guard=some (j,b)) (q:ops[j]?=some oj) (B:oj.dst=some s) (M:lk s σ.tm=some (.d (.v (.bool c)))) (e:s<1000000) (J:c= !b) (L:o.dst=some t) (I:t<C.N):Ui P C ops o ⟨[],some (t,.d (.v undef)),none,none,[],[],[],[]⟩ σ:=fun σ' H N _ a w A K Q E=>by
 have h:lk s σ'.tm=some (.d (.v (.bool c))):=(H s (by simp[rdT,v,q,B])).trans M
 have F:=Mm A q B h e
 refine wpList_step fun O g=> ?_
 rw[Ai (by subst J;simp[Region.wanted,v,F]),L]
 exact g _ _ (E _ _ (A.put I undef))
theorem DW {c:Bool} (v:o.guard=some (j,b)) (q:ops[j]?=some oj) (B:oj.dst=some s) (L:lk s σ.tm=some (.d (.v (.bool c)))) (e:s<1000000) (I:c= !b) (J:o.dst=none):Ui P C ops o ⟨[],none,none,none,[],[],[],[]⟩ σ:=fun σ' H M _ a w A K Q E=>by
 have h:lk s σ'.tm=some (.d (.v (.bool c))):=(H s (by simp[rdT,v,q,B])).trans L
 have F:=Mm A q B h e
 refine wpList_step fun N g=> ?_
 rw[Ai (by subst I;simp[Region.wanted,v,F]),J]
 exact g _ _ (E _ _ A)
theorem DX {x:Array Value} (v:o.guard=some (j,b)) (q:ops[j]?=some oj) (B:oj.dst=some s) (L:lk s σ.tm=some (.d (.v (.tuple x)))) (e:s<1000000) (J:o.dst=some t) (I:t<C.N):Ui P C ops o ⟨[],some (t,.d (.v undef)),none,none,[],[],[],[]⟩ σ:=fun σ' H M _ a w A K Q E=>by
 have h:lk s σ'.tm=some (.d (.v (.tuple x))):=(H s (by simp[rdT,v,q,B])).trans L
 have F:=Pl A q B h e
 refine wpList_step fun N g=> ?_
 rw[Ai (by simp[Region.wanted,v,F]),J]
 exact g _ _ (E _ _ (A.put I undef))
theorem tB {x:Array Value} (v:o.guard=some (j,b)) (q:ops[j]?=some oj) (B:oj.dst=some s) (J:lk s σ.tm=some (.d (.v (.tuple x)))) (e:s<1000000) (I:o.dst=none):Ui P C ops o ⟨[],none,none,none,[],[],[],[]⟩ σ:=fun σ' H L _ a w A K Q E=>by
 have h:lk s σ'.tm=some (.d (.v (.tuple x))):=(H s (by simp[rdT,v,q,B])).trans J
 have F:=Pl A q B h e
 refine wpList_step fun M g=> ?_
 rw[Ai (by simp[Region.wanted,v,F]),I]
 exact g _ _ (E _ _ A)
end
inductive Scr (P:Program) (C:Cx) (ops:Array Oper):List Oper→List It→AS→Prop
 |nil {σ:AS}:Scr P C ops [] [] σ
 |cons {o:Oper} {r:List Oper} {it:It} {its:List It} {σ:AS} (h:Ui P C ops o it σ) (k:Scr P C ops r its (σ.add it)):Scr P C ops (o::r) (it::its) σ
def Oq {β:Type} (sel:It→List (Nat×β)) (t:Nat) (d:Nat→Bool):Nat→List It→Option β→Option β
 |_,[],cur=>cur
 |k,it::r,cur=>Oq sel t d (k+1) r (match d k,lk t (sel it) with
  |true,some u=>some u
  |_,_=>cur)
theorem DY (e:It→List (Nat×β)) (t:Nat) (d:Nat→Bool) (k:Nat) (it:It) (r:List It) (cur:Option β):Oq e t d k (it::r) cur=Oq e t d (k+1) r (match d k,lk t (e it) with
 |true,some u=>some u
 |_,_=>cur):=rfl
def wrs {β:Type} (sel:It→List (Nat×β)) (t:Nat) (it:It):Bool:=(lk t (sel it)).isSome
theorem L4 {e:It→List (Nat×β)}:wrs e t it=true↔∃u,lk t (e it)=some u:=Option.isSome_iff_exists
theorem JV {e:It→List (Nat×β)} (h:¬wrs e t it=true):lk t (e it)=none:=by
 cases g:lk t (e it) with
 |none=>rfl
 |some u=>exact Bg (L4.2 ⟨u,g⟩) h
theorem Gb {β:Type} {g:It→List (Nat×β)} {t:Nat} {d q:Nat→Bool}:∀(l:List It) (k:Nat) (cur:Option β),(∀(i:Nat) it,l[i]?=some it→wrs g t it=true→d (k+i)=q (k+i))→Oq g t d k l cur=Oq g t q k l cur
 |[],_,_,_=>rfl
 |it::r,k,cur,h=>by
  unfold Oq
  have E:=h 0 it rfl
  have e:(match d k,lk t (g it) with|true,some u=>some u|_,_=>cur)=(match q k,lk t (g it) with|true,some u=>some u|_,_=>cur):=by
   cases F:lk t (g it) with
   |none=>cases d k<;>cases q k<;>rfl
   |some u=>
    have:=E (L4.2 ⟨u,F⟩)
    grind
  rw[e]
  exact Gb r (k+1) _ fun i v A B=>by
   have:=h (i+1) v (by simpa using A) B
   grind
theorem Kp {β:Type} {g:It→List (Nat×β)} {t:Nat} {d:Nat→Bool}:∀(l:List It) (k:Nat) (cur:Option β),(∀(i:Nat) it,l[i]?=some it→wrs g t it=true→d (k+i)=false)→Oq g t d k l cur=cur
 |[],_,_,_=>rfl
 |it::r,k,cur,h=>by
  unfold Oq
  have B:=h 0 it rfl
  have e:(match d k,lk t (g it) with|true,some u=>some u|_,_=>cur)=cur:=by
   cases E:lk t (g it) with
   |none=>cases d k<;>rfl
   |some u=>
    have:=B (L4.2 ⟨u,E⟩)
    grind
  rw[e]
  exact Kp r (k+1) _ fun i q v A=>by
   have:=h (i+1) q (by simpa using v) A
   grind
theorem Xm {β:Type} {g:It→List (Nat×β)} {t:Nat} {u:β} {d:Nat→Bool}:∀(l:List It) (k:Nat) (cur:Option β) (m:Nat) (it:It),l[m]?=some it→lk t (g it)=some u→d (k+m)=true→(∀(i:Nat) e,m<i→l[i]?=some e→wrs g t e=true→d (k+i)=false)→Oq g t d k l cur=some u
 |[],_,_,m,it,h,_,_,_=>by simp at h
 |it0::r,k,cur,0,it,h,hs,hd,hn=>by
  simp at h
  subst h
  unfold Oq
  rw[Nat.add_zero] at hd
  rw[hd,hs]
  exact Kp r (k+1) _ fun i e v q=>by
   have:=hn (i+1) e Aa (by simpa using v) q
   grind
 |it0::r,k,cur,m+1,it,h,hs,hd,hn=>by
  unfold Oq
  exact Xm r (k+1) _ m it (by simpa using h) hs (by rw[show k+1+m=k+(m+1) by omega];exact hd) fun i e v A q=>by
   have:=hn (i+1) e Aa (by simpa using A) q
   rw[show k+1+i=k+(i+1) by omega];exact this
theorem Sj (e:It→List (Nat×β)) (g:AS→List (Nat×β)) (q:∀σ it,g (σ.add it)=e it++g σ) (t:Nat):∀(l:List It) (σ:AS) (k m:Nat),lk t (g (σ.addAll (l.take k)))=Oq e t (fun i=>decide (i<m+k)) m l (lk t (g σ)):=by
 intro l
 induction l with
 |nil=>intro σ k m;simp[AS.addAll,Oq]
 |cons it r h=>
  intro σ k m
  cases k with
  |zero=>
   grind [AS.addAll,Kp]
  |succ k=>
   rw[List.take_succ_cons]
   simp only[AS.addAll]
   rw[h (σ.add it) k (m+1)]
   grind [decide,DY,Qf,lk]
theorem Ms (its:List It) (σ:AS) (t:Nat) (k:Nat):lk t (σ.addAll (its.take k)).tm=Oq It.lT t (fun i=>decide (i<k)) 0 its (lk t σ.tm):=by
 have:=Sj It.lT AS.tm Up t its σ k 0
 simpa using this
theorem Mt (its:List It) (σ:AS) (t:Nat) (k:Nat):lk t (σ.addAll (its.take k)).bx=Oq It.lB t (fun i=>decide (i<k)) 0 its (lk t σ.bx):=by
 have:=Sj It.lB AS.bx Xl t its σ k 0
 simpa using this
theorem Q6 (its:List It) (σ:AS) (t:Nat) (k:Nat):lk t (σ.addAll (its.take k)).tk=Oq It.lK t (fun i=>decide (i<k)) 0 its (lk t σ.tk):=by
 have:=Sj It.lK AS.tk tA t its σ k 0
 simpa using this
def Vx:List Oper→List Nat→List Nat
 |[],acc=>acc
 |o::r,acc=>Vx r (acc++[o.after.toList.foldl (fun m e=>match Region.binds .any e with
  |true=>m|||(1<<<e.on)|||acc.getD e.on 0
  |false=>m) 0])
def rch (ms:List Nat) (k j:Nat):Bool:=(ms.getD k 0).testBit j
theorem aI (d:Nat→Bool):∀(l:List Oper) (q:List Nat) (g:List Oper),g=(g.take q.length)++l→q.length≤g.length→(∀k j,k<q.length→∀o,g[k]?=some o→(∀m o',g[m]?=some o'→d m=true→Kc o' d)→Kc o d→(q.getD k 0).testBit j=true→d j=true)→
 ∀k j,k<g.length→∀o,g[k]?=some o→(∀m o',g[m]?=some o'→d m=true→Kc o' d)→Kc o d→((Vx l q).getD k 0).testBit j=true→d j=true:=by
 intro l
 induction l with
 |nil=>
  intro q g A J h k j W o K B v M
  refine h k j ?_ o K B v M
  grind
 |cons Y r Z=>
  intro q g A J h
  have hlt:q.length<g.length:=by
   have:=Cf List.length A
   rw[En,Ec,D9] at this
   omega
  have I:g[q.length]?=some Y:=by
   rw[A,Bw (by rw[Ec];omega),Ec]
   simp[Nat.min_eq_left J]
  refine Z _ g ?_ Af ?_
  ·grind
  ·intro k j W o K B v M
   rw[En,Cc] at W
   by_cases T:k<q.length
   ·refine h k j T o K B v ?_
    grind
   ·obtain rfl:k=q.length:=by omega
    rw[I] at K
    cases K
    rw[Bo,Bw (At _),Nat.sub_self] at M
    simp only[Cy,Cu] at M
    have Ww:∀(H:List Edge) (m:Nat),(∀e∈H,Region.binds .any e=true→d e.on=true)→(m.testBit j=true→d j=true)→(H.foldl (fun m e=>match Region.binds .any e with|true=>m|||(1<<<e.on)|||q.getD e.on 0|false=>m) m).testBit j=true→d j=true:=by
     intro H
     induction H with
     |nil=>intro m _ N O;exact N O
     |cons e H Q=>
      intro m N O X
      rw[Do] at X
      refine Q _ (fun e' V=>N e' (Be _ V)) ?_ X
      intro E
      cases F:Region.binds .any e with
      |false=>rw[F] at E;exact O E
      |true=>
       rw[F] at E
       simp only[Nat.testBit_or,Co] at E
       have U:=N e Bd F
       rcases E with(E|E)|E
       ·exact O E
       ·grind [Nat.one_shiftLeft]
       ·by_cases R:e.on<q.length
        ·have L:e.on<g.length:=by omega
         exact h e.on j R _ (Ev L) B (B e.on _ (Ev L) U) E
        grind
    exact Ww Y.after.toList 0 v Ab M
theorem xK {t:Nat}:∀{l:List Nat},t∈l→Jo t l=true
 |s::r,h=>by
  rcases Bj.1 h with rfl|h
  ·simp[Jo]
  ·simp[Jo,xK h]
def Xn:List Nat→List Nat→Bool
 |[],_=>false
 |s::r,l=>Jo s l||Xn r l
theorem F3 {t:Nat}:∀{l m:List Nat},t∈l→t∈m→Xn l m=true
 |s::r,m,h,hm=>by
  rcases Bj.1 h with rfl|h
  ·simp[Xn,xK hm]
  ·simp[Xn,F3 h hm]
def Hb (ops:Array Oper) (oi:Oper) (a:It) (oj:Oper) (b:It):Bool:=
 Xn (kl a.lT) (rdT ops oj)||Xn (kl a.lT) (kl b.lT)||Xn (rdT ops oi) (kl b.lT)||Xn (kl a.lB) b.rb||Xn (kl a.lB) (kl b.lB)||Xn a.rb (kl b.lB)||Xn (kl a.lK) b.ex||Xn a.ex (kl b.lK)||Xn (kl a.lK) (kl b.lK)
def Zi (id:Nat) (a:It):Bool:=clT id a.lT&&clB id a.lB
def aJ (a b:It):List Nat→Bool
 |[]=>true
 |id::r=>clX a id b.lT b.lB&&aJ a b r
theorem Sk {a b:It}:∀{l:List Nat},aJ a b l=true→∀id∈l,clX a id b.lT b.lB=true
 |[],_,id,h=>by cases h
 |x::r,h,id,e=>by
  simp only[aJ,Et] at h
  rcases Bj.1 e with rfl|e
  ·exact h.1
  ·exact Sk h.2 id e
def Kh (ids:List Nat) (a:It):Bool:=match ids with
 |[]=>true
 |id::r=>Zi id a&&Kh r a
def xL (ops:Array Oper) (ms:List Nat) (i:Nat) (oi:Oper) (a:It):Nat→List Oper→List It→Bool
 |_,[],_=>true
 |_,_,[]=>true
 |j,oj::r,b::s=>(!Hb ops oi a oj b||rch ms j i)&&(Kh b.cr a)&&(Kh a.cr b||rch ms j i)&&(aJ b a b.ex)&&(aJ a b a.ex||rch ms j i)&&xL ops ms i oi a (j+1) r s
def Ot (ops:Array Oper) (ms:List Nat):Nat→List Oper→List It→Bool
 |_,[],_=>true
 |_,_,[]=>true
 |i,oi::r,a::s=>xL ops ms i oi a (i+1) r s&&Ot ops ms (i+1) r s
def Sl (σ:AS):List It→Bool
 |[]=>true
 |it::r=>(it.cr.all fun id=>σ.clean id)&&(it.ex.all fun id=>clX it id σ.tm σ.bx)&&Sl σ r
def Xo (l:List Oper) (its:List It) (σ:AS):Bool:=Ot l.toArray (Vx l []) 0 l its&&Sl σ its
theorem DZ {g:Oper} {a b:It} (r:List Oper):∀(s:List It) (j m:Nat),xL ops ms i g a j r s=true→r[m]?=some oj→s[m]?=some b→
 (Hb ops g a oj b=true→rch ms (j+m) i=true)∧Kh b.cr a=true∧(Kh a.cr b=true∨rch ms (j+m) i=true)∧aJ b a b.ex=true∧(aJ a b a.ex=true∨rch ms (j+m) i=true):=by
 induction r with
 |nil=>intro s j m _ e;simp at e
 |cons I r v=>
  intro s j m h e q
  cases s with
  |nil=>simp at q
  |cons B s=>
   simp only[xL,Et,Co,Ca] at h
   obtain⟨⟨⟨⟨⟨E,F⟩,k3⟩,H⟩,k6⟩,A⟩:=h
   cases m with
   |zero=>
    grind
   |succ m=>
    grind
theorem mR {q B:Oper} {a b:It} (r:List Oper):∀(s:List It) (i m n:Nat),Ot ops ms i r s=true→m<n→r[m]?=some q→s[m]?=some a→r[n]?=some B→s[n]?=some b→
 (Hb ops q a B b=true→rch ms (i+n) (i+m)=true)∧Kh b.cr a=true∧(Kh a.cr b=true∨rch ms (i+n) (i+m)=true)∧aJ b a b.ex=true∧(aJ a b a.ex=true∨rch ms (i+n) (i+m)=true):=by
 induction r with
 |nil=>intro s i m n _ _ e;simp at e
 |cons K r E=>
  intro s i m n h F e g v A
  cases s with
  |nil=>simp at g
  |cons J s=>
   simp only[Ot,Et] at h
   obtain⟨H,I⟩:=h
   obtain⟨n,rfl⟩:∃n',n=n'+1:=⟨n-1,Aa⟩
   cases m with
   |zero=>
    simp only[Cy,A7] at e g
    subst e g
    have:=DZ r s (i+1) n H (by simpa using v) (by simpa using A)
    grind
   |succ m=>
    have:=E s (i+1) m n I Aa (by simpa using e) (by simpa using g) (by simpa using v) (by simpa using A)
    rw[show i+1+n=i+(n+1) by omega,show i+1+m=i+(m+1) by omega] at this
    exact this
theorem G1 {r:List Oper} {s:List It} {g q:Oper} {a b:It} (h:Ot ops ms i r s=true) (e:m<n) (v:r[m]?=some g) (E:s[m]?=some a) (A:r[n]?=some q) (B:s[n]?=some b):
 (Hb ops g a q b=true→rch ms (i+n) (i+m)=true)∧Kh b.cr a=true∧(Kh a.cr b=true∨rch ms (i+n) (i+m)=true)∧aJ b a b.ex=true∧(aJ a b a.ex=true∨rch ms (i+n) (i+m)=true):=mR r s i m n h e v E A B
theorem N6 {e:List Nat} {a:It} (h:Kh e a=true):∀id∈e,Zi id a=true:=by
 induction e with
 |nil=>intro id g;simp at g
 |cons x r q=>
  simp only[Kh,Et] at h
  grind
theorem Uq {σ:AS}:∀{its:List It},Sl σ its=true→∀it∈its,∀id∈it.cr,σ.clean id=true
 |[],_,it,h=>by simp at h
 |x::r,h,it,e=>by
  simp only[Sl,Et] at h
  rcases Bj.1 e with rfl|e
  ·intro id hid;exact B0.1 h.1.1 id hid
  ·exact Uq h.2 it e
theorem Xp {σ:AS}:∀{its:List It},Sl σ its=true→∀it∈its,∀id∈it.ex,clX it id σ.tm σ.bx=true
 |[],_,it,h=>by simp at h
 |x::r,h,it,e=>by
  simp only[Sl,Et] at h
  rcases Bj.1 e with rfl|e
  ·intro id hid;exact B0.1 h.1.2 id hid
  ·exact Xp h.2 it e
theorem xM {a:It} (e:clX it id σ.tm σ.bx=true) (g:clX it id a.lT a.lB=true):clX it id (σ.add a).tm (σ.add a).bx=true:=by
 simp only[clX,Et] at*
 grind [Up,Xl,UD,UE]
theorem UG {l m:List (Nat×AV)} (e:clT id l=true) (h:clT id m=true):clT id (l++m)=true:=by
 induction l with
 |nil=>exact h
 |cons p r g=>
  obtain⟨k,u⟩:=p
  simp only[clT,Ak,Et] at*
  exact⟨e.1,g e.2⟩
theorem UH {l m:List (Nat×List AV)} (e:clB id l=true) (h:clB id m=true):clB id (l++m)=true:=by
 induction l with
 |nil=>exact h
 |cons p r g=>
  obtain⟨k,u⟩:=p
  simp only[clB,Ak,Et] at*
  exact⟨e.1,g e.2⟩
theorem fM {a:It} (e:σ.clean id=true) (g:Zi id a=true):(σ.add a).clean id=true:=by
 simp only[AS.clean,Zi,Et] at*
 grind [Up,Xl,UG,UH]
theorem xN (h:Scr P C ops l its σ):its.length=l.length:=by
 induction h with
 |nil=>rfl
 |cons h k e=>simp[e]
theorem xO (h:Scr P C ops l its σ):∀k o it,l[k]?=some o→its[k]?=some it→Ui P C ops o it (σ.addAll (its.take k)):=by
 induction h with
 |nil=>intro k o it h;simp at h
 |cons h k q=>
  intro m o it g e
  cases m with
  |zero=>simp at g e;subst g e;exact h
  |succ m=>rw[List.take_succ_cons];exact q m o it (by simpa using g) (by simpa using e)
structure Sim (l:List Oper) (its:List It) (σ0:AS) (d:Nat→Bool) (σ:AS):Prop where
 tm:∀t,lk t σ.tm=Oq It.lT t d 0 its (lk t σ0.tm)
 bx:∀t,lk t σ.bx=Oq It.lB t d 0 its (lk t σ0.bx)
 tk:∀t,lk t σ.tk=Oq It.lK t d 0 its (lk t σ0.tk)
 cl:∀(j:Nat) it,its[j]?=some it→d j=false→∀id∈it.cr,σ.clean id=true
 cx:∀(j:Nat) it,its[j]?=some it→d j=false→∀id∈it.ex,clX it id σ.tm σ.bx=true
 dep:∀(k:Nat) o,l[k]?=some o→d k=true→Kc o d
theorem G.same (h:G C σ a w) (g:∀t,lk t σ'.tm=lk t σ.tm) (v:∀t,lk t σ'.bx=lk t σ.bx) (q:∀t,lk t σ'.tk=lk t σ.tk):G C σ' a w:=
 h.weak ⟨fun t u A=>⟨u,by rw[←g t];exact A,.refl u⟩,fun k cs e=>⟨cs,by rw[←v k];exact e,Ln cs⟩,fun k x e=>by rw[←q k];exact e⟩
theorem ej {K1:Act→World→Prop} {K2:Exit→Act→World→Prop} (hs:Scr P C ops l its σ) (v:Ot ops ms 0 l its=true) (ho:l[k]?=some o) (X:its[k]?=some it) {d:Nat→Bool} (hdk:d k=false) (hdep:Kc o d) (R:∀k j o,l[k]?=some o→Kc o d→rch ms k j=true→d j=true) (hG':G C σ' a w) (h:Sim l its σ d σ') (hK:∀a' w',G C (σ'.add it) a' w'→Sim l its σ (Io d k) (σ'.add it)→K1 a' w'):wpList P ops (Exit.then K1 K2) [o] a w:=by
 have hlen:=xN hs
 have hget:=xO hs
 have K:∀(k:Nat) it,its[k]?=some it→∃o,l[k]?=some o:=fun k it X=>⟨_,Ev (by grind)⟩
 have key:∀(t:Nat) {β:Type} (A:It→List (Nat×β)),(∀(m:Nat) F g,l[m]?=some F→its[m]?=some g→wrs A t g=true→(m<k→Hb ops F g o it=true)∧(k<m→Hb ops o it F g=true))→∀(m:Nat) g,its[m]?=some g→wrs A t g=true→d m=decide (m<k):=by
  intro t β A hcl m g J q
  obtain⟨F,B⟩:=K m g J
  obtain⟨c1,c2⟩:=hcl m F g B J q
  rcases Nat.lt_trichotomy m k with M|heq|L
  ·have:=(G1 v M B J ho X).1 (c1 M)
   grind
  ·subst heq;rw[hdk];simp
  ·have:=(G1 v L ho X B J).1 (c2 L)
   rw[A0,A0] at this
   cases Z:d m with
   |false=>simp;omega
   |true=>exact Bg (R m k F B (h.dep m F B Z) this) (by rw[hdk];simp)
 have H:∀{t:Nat} {g:It},wrs It.lT t g=true→t∈kl g.lT:=fun q=>by grind [L4,Vw]
 have I:∀{t:Nat} {g:It},wrs It.lB t g=true→t∈kl g.lB:=fun q=>by grind [L4,Vw]
 have N:∀{t:Nat} {g:It},wrs It.lK t g=true→t∈kl g.lK:=fun q=>by grind [L4,Vw]
 have hstep:=hget k o it ho X
 refine hstep σ' (fun t ht=> ?_) ⟨fun b hb=> ?_,fun t ht=> ?_,fun b hb=> ?_,fun t ht=> ?_,h.cx k it X hdk⟩ (h.cl k it X hdk) a w hG' _ _ fun a' w' hG2=>hK a' w' hG2 ?_
 ·rw[h.tm,Ms]
  exact Gb _ _ _ fun m g J q=>by
   rw[A0]
   exact key t It.lT (fun m F g _ _ q=>⟨fun _=>by simp only[Hb,F3 (H q) ht,B4],fun _=>by simp only[Hb,F3 ht (H q),B4,B5]⟩) m g J q
 ·rw[h.bx,Mt]
  exact Gb _ _ _ fun m g J q=>by
   rw[A0]
   exact key b It.lB (fun m F g _ _ q=>⟨fun _=>by simp only[Hb,F3 (I q) hb,B4,B5],fun _=>by simp only[Hb,F3 hb (I q),B4,B5]⟩) m g J q
 ·rw[h.tm,Ms]
  exact Gb _ _ _ fun m g J q=>by
   rw[A0]
   exact key t It.lT (fun m F g _ _ q=>⟨fun _=>by simp only[Hb,F3 (H q) ht,B4,B5],fun _=>by simp only[Hb,F3 ht (H q),B4,B5]⟩) m g J q
 ·rw[h.bx,Mt]
  exact Gb _ _ _ fun m g J q=>by
   rw[A0]
   exact key b It.lB (fun m F g _ _ q=>⟨fun _=>by simp only[Hb,F3 (I q) hb,B4,B5],fun _=>by simp only[Hb,F3 hb (I q),B4,B5]⟩) m g J q
 ·rw[h.tk,Q6]
  exact Gb _ _ _ fun m g J q=>by
   rw[A0]
   exact key t It.lK (fun m F g _ _ q=>⟨fun _=>by simp only[Hb,F3 (N q) ht,B4,B5],fun _=>by simp only[Hb,F3 ht (N q),B4,B5]⟩) m g J q
 ·
  have upd:∀{β:Type} (A:It→List (Nat×β)) (log U:List (Nat×β)) (t:Nat),(∀t,lk t log=Oq A t d 0 its (lk t U))→(∀t,wrs A t it=true→∀(m:Nat) g,its[m]?=some g→wrs A t g=true→d m=decide (m<k))→lk t (A it++log)=Oq A t (Io d k) 0 its (lk t U):=by
   intro β A log U t hlog hkey
   rw[Qf]
   by_cases q:wrs A t it=true
   ·obtain⟨u,hu⟩:=L4.1 q
    rw[hu]
    refine(Xm its 0 _ k it X hu (by rw[A0,Jh]) fun i it' hki hit hw'=> ?_).symm
    rw[A0,Is _ _ _ Aa,hkey t q i it' hit hw']
    simp;omega
   ·rw[JV q,hlog]
    refine Gb _ _ _ fun m g J E=> ?_
    rw[A0,Is]
    grind
  refine⟨fun t=> ?_,fun t=> ?_,fun t=> ?_,fun j O Y Q id hid=> ?_,fun j O Y Q id hid=> ?_,fun m F B Z=> ?_⟩
  ·rw[Up];exact upd It.lT σ'.tm σ.tm t h.tm fun t q=>key t It.lT fun m F g _ _ E=>⟨fun _=>by simp only[Hb,F3 (H E) (H q),B4,B5],fun _=>by simp only[Hb,F3 (H q) (H E),B4,B5]⟩
  ·rw[Xl];exact upd It.lB σ'.bx σ.bx t h.bx fun t q=>key t It.lB fun m F g _ _ E=>⟨fun _=>by simp only[Hb,F3 (I E) (I q),B4,B5],fun _=>by simp only[Hb,F3 (I q) (I E),B4,B5]⟩
  ·rw[tA];exact upd It.lK σ'.tk σ.tk t h.tk fun t q=>key t It.lK fun m F g _ _ E=>⟨fun _=>by simp only[Hb,F3 (N E) (N q),B5],fun _=>by simp only[Hb,F3 (N q) (N E),B5]⟩
  ·have V:j≠k:=fun e=>by grind [Jh]
   rw[Is _ _ _ V] at Q
   refine fM (h.cl j O Y Q id hid) ?_
   obtain⟨oj,T⟩:=K j O Y
   rcases Nat.lt_or_gt_of_ne V with M|L
   ·have:=(G1 v M T Y ho X).2.2.1
    rw[A0,A0] at this
    grind [N6,id,absurd]
   ·exact N6 (G1 v L ho X T Y).2.1 id hid
  ·have V:j≠k:=fun e=>by grind [Jh]
   rw[Is _ _ _ V] at Q
   refine xM (h.cx j O Y Q id hid) ?_
   obtain⟨oj,T⟩:=K j O Y
   rcases Nat.lt_or_gt_of_ne V with M|L
   ·have:=(G1 v M T Y ho X).2.2.2.2
    rw[A0,A0] at this
    grind [Sk,id,absurd]
   ·exact Sk (G1 v L ho X T Y).2.2.2.1 id hid
  ·by_cases hmk:m=k
   ·subst hmk
    rw[ho] at B;cases B
    intro e he hb
    by_cases W:e.on=m
    ·rw[W,Jh]
    ·rw[Is _ _ _ W];exact hdep e he hb
   ·rw[Is _ _ _ hmk] at Z
    intro e he hb
    by_cases W:e.on=k
    ·rw[W,Jh]
    ·rw[Is _ _ _ W];exact h.dep m F B Z e he hb
theorem ry (e:Sl σ its=true):Sim l its σ (fun _=>false) σ:=
 ⟨fun t=>(Kp _ _ _ fun _ _ _ _=>rfl).symm,fun t=>(Kp _ _ _ fun _ _ _ _=>rfl).symm,fun t=>(Kp _ _ _ fun _ _ _ _=>rfl).symm,fun j it g _ id hid=>Uq e it (F9 g) id hid,fun j it g _ id hid=>Xp e it (F9 g) id hid,fun k o _ h=>by cases h⟩
theorem i3 {d:Nat→Bool} (q:its.length=l.length) (B:∀k,k<l.length→d k=true) (A:G C σ' a w) (g:Sim l its σ d σ'):G C (σ.addAll its) a w:=by
 have e:=Bv (l:=its)
 refine A.same (fun t=> ?_) (fun t=> ?_) (fun t=> ?_)
 ·rw[g.tm,←e,Ms,e]
  exact Gb _ _ _ fun m h v _=>by grind
 ·rw[g.bx,←e,Mt,e]
  exact Gb _ _ _ fun m h v _=>by grind
 ·rw[g.tk,←e,Q6,e]
  exact Gb _ _ _ fun m h v _=>by grind
theorem tE (Q:P.follows .mixedOrders=true) (N:Nu l.toArray=true) (K:Scr P C l.toArray l its σ) (E:Xo l its σ=true) (O:Φ .normal (σ.addAll its)):
 G3 P C (.region id l.toArray true) Φ σ:=by
 intro a w T
 have v:=xN K
 simp only[Xo,Et] at E
 obtain⟨g,q⟩:=E
 refine Nd Q N (fun d a w=>∃σ',G C σ' a w∧Sim l its σ d σ') ⟨σ,?_,ry q⟩ ?_ fun a w ⟨σ',h,e⟩=>⟨_,O,i3 v (fun k H=>by simpa using H) h e⟩
 ·obtain⟨bm,gt,fp,R⟩:=T
  exact⟨bm,gt,fp,R.grow (Below.drew (Bq _ _))⟩
 ·have V:∀(r:List Oper) (k:Nat),(∀(i:Nat) o,r[i]?=some o→l[k+i]?=some o)→Q0 P l.toArray (T5 C Φ) (fun d a w=>∃σ',G C σ' a w∧Sim l its σ d σ') k r:=by
   intro r
   induction r with
   |nil=>intro k _;trivial
   |cons o r M=>
    intro k F
    have A:=F 0 o rfl
    rw[Nat.add_zero] at A
    refine⟨fun d a w I B ⟨σ',h,e⟩=>ej K g A (Ev (by grind)) I B (fun k j o A I F=>aI d l [] l Ab Ab (fun k j H=>by simp at H) k j (Ew.1 A).1 o A e.dep I F) h e fun _ _ L U=>⟨_,L,U⟩,M (k+1) fun i o' J=>by rw[show k+1+i=k+(i+1) by omega];exact F (i+1) o' (by simpa using J)⟩
  grind
theorem tr (e:AgT o σ' σ) (g:x∈o.op.operands.toList) (h:σ.eval x=some u):σ'.eval x=some u:=(e x g).trans h
theorem trL {o:Oper} {σ σ':AS} (e:AgT o σ' σ):∀{l:List Operand},(∀x∈l,x∈o.op.operands.toList)→evL σ' l=evL σ l
 |[],_=>rfl
 |x::r,h=>by
  unfold evL
  rw[e x (h x Bd),trL e fun y g=>h y (Be _ g)]
theorem trP {o:Oper} {σ σ':AS} (e:AgT o σ' σ):∀{l:List (Nat×Operand)},(∀p∈l,p.2∈o.op.operands.toList)→evP σ' l=evP σ l
 |[],_=>rfl
 |(i,x)::r,h=>by
  unfold evP
  rw[e x (h (i,x) Bd),trP e fun y g=>h y (Be _ g)]
theorem trB {x:Option Operand} {d e:Nat} (q:AgT o σ' σ) (A:∀y,x=some y→y∈o.op.operands.toList) (h:Bnd σ x d e):Bnd σ' x d e:=by
 cases x with
 |none=>exact h
 |some x=>obtain⟨k,z,g,v⟩:=h;exact⟨k,z,tr q (A x rfl) g,v⟩
section
variable {P:Program} {C:Cx} {ops:Array Oper} {o:Oper} {σ:AS} {t:Nat}
theorem tF {c:Bool} (v:o.guard=some (j,b)) (g:ops[j]?=some oj) (B:oj.dst=some s) (A:lk s σ.tm=some (.d (.v (.bool c)))) (e:s<1000000) (q:c=b) (h:LA P C o it σ):Ui P C ops o it σ:=by grind [DV]
theorem UI (e:o.op= .move x) (v:o.dst=some t) (h:t<C.N) (q:σ.eval x=some u):LA P C o ⟨[],some (t,u),none,none,[],[],[],[]⟩ σ:=fun _ g _ _=>DI e v h (tr g (by rw[e];simp[Op.operands]) q)
theorem EA (e:o.op= .assign x) (v:o.dst=some t) (h:t<C.N) (q:σ.eval x=some u):LA P C o ⟨[],some (t,u),none,none,[],[],[],[]⟩ σ:=fun _ g _ _=>mF e v h (tr g (by rw[e];simp[Op.operands]) q)
theorem xP {c:Operand} {h:Bool} (g:o.op= .pick c x y) (E:o.dst=some t) (v:t<C.N) (q:σ.eval c=some (.d (.v (.bool h)))) (B:h=b) (A:σ.eval (bif b then x else y)=some u):LA P C o ⟨[],some (t,u),none,none,[],[],[],[]⟩ σ:=fun _ e _ _=>by
 subst B
 exact DJ g E v (tr e (by rw[g];simp[Op.operands]) q) (tr e (by grind [Op.operands]) A)
theorem ck {v:TypeId} (e:o.op= .unOp .not v x) (A:o.dst=some t) (h:t<C.N) (q:σ.eval x=some (.d (.v (.bool b)))):LA P C o ⟨[],some (t,.d (.v (.bool !b))),none,none,[],[],[],[]⟩ σ:=fun _ g _ _=>JK e A h (tr g (by rw[e];simp[Op.operands]) q)
theorem cm {op:BinOp} {e v:TypeId} {p q:Value} (g:o.op= .binOp op e x y v) (H:o.dst=some t) (B:t<C.N) (E:σ.eval x=some (.d (.v p))) (A:σ.eval y=some (.d (.v q))) (F:∀w,(do eqGuard op e x y p q;binOp op e p q:Sem Value).run P w= .ok z w):LA P C o ⟨[],some (t,.d (.v z)),none,none,[],[],[],[]⟩ σ:=fun _ h _ _=>
 JJ g H B (tr h (by rw[g];simp[Op.operands]) E) (tr h (by rw[g];simp[Op.operands]) A) F
theorem UJ {e g:TypeId} {k E:IntKind} {d:TypeDesc} {m z:Int} (h:o.op= .convert e g x) (H:o.dst=some t) (A:t<C.N) (I:P.underlying e=some d) (q:P.underlying g=some (.int k)) (B:σ.eval x=some (.d (.v (.int E m)))) (F:k.wrap m=z):LA P C o ⟨[],some (t,.d (.v (.int k z))),none,none,[],[],[],[]⟩ σ:=fun _ v _ _=>
 DK h H A I q (tr v (by rw[h];simp[Op.operands]) B) F
theorem tG (e:o.op= .extract x i) (A:o.dst=some t) (q:t<C.N) (v:σ.eval x=some (.tup us)) (h:us[i]?=some u):LA P C o ⟨[],some (t,u),none,none,[],[],[],[]⟩ σ:=fun _ g _ _=>iW e A q (tr g (by rw[e];simp[Op.operands]) v) h
theorem UK {ty:TypeId} {d:TypeDesc} (g:o.op= .load ty x) (H:o.dst=some t) (B:t<C.N) (F:σ.eval x=some (.ptr k off)) (v:lk k σ.bx=some cs) (e:TyOk P ty d z sz by') (h:Om d=false) (q:cs[off]?=some u):LA P C o ⟨[k],some (t,u),none,none,[],[],[],[]⟩ σ:=fun _ A E _=>
 DL g H B (tr A (by rw[g];simp[Op.operands]) F) ((E.rb k Ab).trans v) e h q
theorem JW {ty:TypeId} {d:TypeDesc} (g:o.op= .load ty x) (I:o.dst=some t) (E:t<C.N) (H:σ.eval x=some (.ptr k off)) (A:lk k σ.bx=some cs) (e:TyOk P ty d z sz by') (h:Om d=true) (q:(cs.drop off).take sz=us) (v:us.length=sz):LA P C o ⟨[k],some (t,.agg us),none,none,[],[],[],[]⟩ σ:=fun _ B F _=>
 sM g I E (tr B (by rw[g];simp[Op.operands]) H) ((F.rb k Ab).trans A) e h q v
theorem JX {ty:TypeId} {d:TypeDesc} {u:D} (g:o.op= .load ty x) (E:o.dst=some t) (A:t<C.N) (B:σ.eval x=some (.d (.cp tg ds))) (e:TyOk P ty d z sz by') (h:Om d=false) (q:ds[0]?=some u):LA P C o ⟨[],some (t,.d u),none,none,[],[],[],[]⟩ σ:=fun _ v _ _=>
 sN g E A (tr v (by rw[g];simp[Op.operands]) B) e h q
theorem EB {ty:TypeId} {d:TypeDesc} (g:o.op= .load ty x) (F:o.dst=some t) (B:t<C.N) (E:σ.eval x=some (.d (.cp tg ds))) (e:TyOk P ty d z sz by') (h:Om d=true) (v:ds.length=sz) (q:ds.map AV.d=us):LA P C o ⟨[],some (t,.agg us),none,none,[],[],[],[]⟩ σ:=fun _ A _ _=>
 mG g F B (tr A (by rw[g];simp[Op.operands]) E) e h v q
theorem JY {ty:TypeId} {d:TypeDesc} (g:o.op= .store ty x y) (I:o.dst=none) (F:σ.eval x=some (.ptr k off)) (A:lk k σ.bx=some cs) (B:σ.eval y=some u) (e:TyOk P ty d z sz by') (q:u.flat=true) (v:u.cells.length=sz) (H:off+sz≤cs.length):
 LA P C o ⟨[k],none,some (k,Kg cs off u.cells),none,[],[],[],[]⟩ σ:=fun _ h E _=>
 sO g I (tr h (by rw[g];simp[Op.operands]) F) ((E.rb k Ab).trans A) (tr h (by rw[g];simp[Op.operands]) B) e q v H
theorem JZ {ty:TypeId} {d:TypeDesc} (g:o.op= .alloc ty) (A:o.dst=some t) (q:t<C.N) (e:TyOk P ty d z sz by') (v:z.cells.toList.map (fun x=>AV.d (.v x))=zs):LA P C o ⟨[],some (t,.ptr κ 0),some (κ,zs),none,[κ],[],[],[]⟩ σ:=fun _ _ _ h=>
 sP g A q e v (h κ Ab)
theorem co {ty:TypeId} {d:TypeDesc} (h:o.op= .box ty x) (F:o.dst=some t) (B:t<C.N) (E:σ.eval x=some u) (e:TyOk P ty d z sz by') (q:u.flat=true) (g:u.clean κ=true):LA P C o ⟨[],some (t,.ptr κ 0),some (κ,u.cells),none,[κ],[],[],[]⟩ σ:=fun _ v _ A=>
 JL h F B (tr v (by rw[h];simp[Op.operands]) E) e q (A κ Ab) g
theorem iZ {ty:TypeId} {q:Bool} (e:o.op= .fieldAddr ty x i) (E:o.dst=some t) (h:t<C.N) (v:FldOk P ty i off sz q) (B:0<sz) (A:σ.eval x=some (.ptr k p)):LA P C o ⟨[],some (t,.ptr k (p+off)),none,none,[],[],[],[]⟩ σ:=fun _ g _ _=>
 aF e E h v B (tr g (by rw[e];simp[Op.operands]) A)
theorem eJ {ty:TypeId} {q:Bool} {e:List D} (h:o.op= .fieldAddr ty x i) (H:o.dst=some t) (A:t<C.N) (B:FldOk P ty i off sz q) (F:0<sz) (E:σ.eval x=some (.d (.cp tg ds))) (g:(ds.drop off).take sz=e):LA P C o ⟨[],some (t,.d (.cp tg e)),none,none,[],[],[],[]⟩ σ:=fun _ v _ _=>
 Y4 h H A B F (tr v (by rw[h];simp[Op.operands]) E) g
theorem KA {ty:TypeId} (e:o.op= .field ty x i) (B:o.dst=some t) (h:t<C.N) (q:FldOk P ty i off sz false) (A:σ.eval x=some (.agg us)) (v:us[off]?=some u):LA P C o ⟨[],some (t,u),none,none,[],[],[],[]⟩ σ:=fun _ g _ _=>
 sQ e B h q (tr g (by rw[e];simp[Op.operands]) A) v
theorem EC {ty:TypeId} {e:List AV} (g:o.op= .field ty x i) (E:o.dst=some t) (q:t<C.N) (v:FldOk P ty i off sz true) (B:σ.eval x=some (.agg us)) (A:(us.drop off).take sz=e):LA P C o ⟨[],some (t,.agg e),none,none,[],[],[],[]⟩ σ:=fun _ h _ _=>
 mH g E q v (tr h (by rw[g];simp[Op.operands]) B) A
theorem KB {ty:TypeId} {g:List (Nat×Nat)} {d:TypeDesc} {us:List (Nat×AV)} (A:o.op= .build ty ps) (F:o.dst=some t) (B:t<C.N) (e:TyOk P ty d z sz by') (H:StrOk P ty g) (E:z.cells.toList.map (fun x=>AV.d (.v x))=zs) (h:evP σ ps.toList=some us) (q:L3 (fun i:Nat=>g[i]?) zs us=some cs):
 LA P C o ⟨[],some (t,.agg cs),none,none,[],[],[],[]⟩ σ:=fun _ v _ _=>
 sZ A F B e H E ((trP v fun p h=>by grind [Op.operands]).trans h) q
theorem UL {st e:TypeId} {d:TypeDesc} {zS:Value} {N L:Nat} {us:List (Nat×AV)} (F:o.op= .buildSlice st n ps) (J:o.dst=some t) (I:t<C.N) (h:TyOk P st (.slice e) zS N L) (E:TyOk P e d z sz by') (A:evP σ ps.toList=some us) (B:L3 (fun i=>some (i*sz,sz)) ((List.range (n*sz)).map fun i=>AV.d (.v (z.cells[i%z.cells.size]!))) us=some cs) (v:Nv cs=some ds) (g:aD cs=true) (K:n*sz≤1000) (q:n≤1000):
 LA P C o ⟨[],some (t,.own κ n sz e ds),none,some (κ,n,sz,e),[κ],[],[],[]⟩ σ:=fun _ M _ H=>
 DT F J I h E ((trP M fun p A=>by grind [Op.operands]).trans A) B v g K q (H κ Ab)
theorem cq {st e:TypeId} {k:IntKind} {iv:Int} {cs g:List D} {d:TypeDesc} (A:o.op= .indexAddr st x y) (K:o.dst=some t) (I:t<C.N) (q:P.underlying st=some (.slice e)) (H:TyOk P e d z sz by') (J:σ.eval x=some ux) (v:ux.asSlT sz=some (tg,n,cs)) (L:σ.eval y=some (.d (.v (.int k iv)))) (M:iv=(i:Int)) (E:i<n) (h:0<sz) (B:(cs.drop (i*sz)).take sz=g):
 LA P C o ⟨[],some (t,.d (.cp tg g)),none,none,[],[],[],[]⟩ σ:=fun _ F _ _=>
 JM A K I q H (tr F (by rw[A];simp[Op.operands]) J) v (tr F (by rw[A];simp[Op.operands]) L) M E h B
theorem UM {st:TypeId} {k:IntKind} {iv:Int} {l:List UInt8} {b:UInt8} (g:o.op= .index st x y) (F:o.dst=some t) (A:t<C.N) (e:P.underlying st=some .string) (B:σ.eval x=some (.d (.v (.string ⟨l.toArray⟩)))) (q:σ.eval y=some (.d (.v (.int k iv)))) (v:iv=(i:Int)) (E:l[i]?=some b):LA P C o ⟨[],some (t,.d (.v (.int .u8 b.toNat))),none,none,[],[],[],[]⟩ σ:=fun _ h _ _=>
 DM g F A e (tr h (by rw[g];simp[Op.operands]) B) (tr h (by rw[g];simp[Op.operands]) q) v E
theorem KC {st e:TypeId} {q v I:Nat} {L J A:Option Operand} {cs g:List D} {d:TypeDesc} (h:o.op= .slice st x L J A) (U:o.dst=some t) (O:t<C.N) (E:P.underlying st=some (.slice e)) (N:TyOk P e d z sz by') (R:σ.eval x=some ux) (F:ux.asSlT sz=some (tg,n,cs)) (W:Bnd σ L 0 q) (Q:Bnd σ J n v)
 (T:Bnd σ A n I) (H:J=none→A=none) (M:q≤v) (X:v≤I) (V:I≤n) (K:(cs.drop (q*sz)).take ((v-q)*sz)=g):LA P C o ⟨[],some (t,.d (.sl tg (v-q) sz g)),none,none,[],[],[],[]⟩ σ:=fun _ B _ _=>
 sS h U O E N (tr B (by rw[h];simp[Op.operands]) R) F (trB B (fun y e=>by rw[h,e];simp[Op.operands]) W) (trB B (fun y e=>by rw[h,e];simp[Op.operands]) Q) (by
  have:=trB B (fun y e=>by rw[h,e];simp[Op.operands]) T
  cases A with
  |none=>exact this
  |some y=>exact this) H M X V K
theorem ct {st e:TypeId} {cs:List D} (q:o.op= .call {callee:= .builtin .len,args:=#[x],argTypes:=#[st]}) (E:o.dst=some t) (A:t<C.N) (g:P.underlying st=some (.slice e)) (B:σ.eval x=some ux) (h:ux.asSlT sz=some (tg,n,cs)):LA P C o ⟨[],some (t,.d (.v (.int .i64 n))),none,none,[],[],[],[]⟩ σ:=fun _ v _ _=>
 JN q E A g (tr v (by rw[q];simp[Op.operands,Call.operands]) B) h
theorem UN {st:TypeId} {l:List UInt8} (g:o.op= .call {callee:= .builtin .len,args:=#[x],argTypes:=#[st]}) (A:o.dst=some t) (q:t<C.N) (e:P.underlying st=some .string) (v:σ.eval x=some (.d (.v (.string ⟨l.toArray⟩)))):LA P C o ⟨[],some (t,.d (.v (.int .i64 l.length))),none,none,[],[],[],[]⟩ σ:=fun _ h _ _=>
 DN g A q e (tr h (by rw[g];simp[Op.operands,Call.operands]) v)
theorem cu {g h e:TypeId} {cs:List D} {l:List UInt8} (v:o.op= .convert g h x) (J:o.dst=some t) (F:t<C.N) (K:P.underlying g=some (.slice e)) (H:P.underlying e=some (.int .u8)) (A:P.underlying h=some .string) (I:σ.eval x=some ux) (q:ux.asSlT 1=some (tg,n,cs)) (B:cs=Fj l):
 LA P C o ⟨[],some (t,.d (.v (.string ⟨l.toArray⟩))),none,none,[],[],[],[]⟩ σ:=fun _ E _ _=>
 JO v J F K H A (tr E (by rw[v];simp[Op.operands]) I) q B
theorem jA (σ:AS) (t κ:Nat) (r:AV):σ.res t κ r=σ.add ⟨[],some (t,r.ren κ),none,r.tok.map fun x=>(κ,x),[κ],[],[],[]⟩:=by
 unfold AS.res AS.add
 cases r.tok<;>rfl
theorem UO (H:o.op= .call {callee:= .value (.func f),args:=args,argTypes:=ats}) (L:o.dst=some t) (I:t<C.N) (A:evL σ args.toList=some us) (q:Fb us=true) (g:D8 us=fs) (e:Es P f fs (fun h=>h=r)):
 LA P C o ⟨[],some (t,r.ren κ),none,r.tok.map fun x=>(κ,x),[κ],[],[],[]⟩ σ:=fun σ' E _ F a w J K Q M=>by
 refine Xj H L I (F κ Ab) ((trL E fun x O=>by grind [Op.operands,Call.operands]).trans A) q g e a w J K Q ?_
 rintro B N w' ⟨h,rfl,rfl⟩ v
 grind [jA]
theorem KD {e:List D} (A:o.op= .call {callee:= .value (.tmp s),args:=args,argTypes:=ats}) (N:o.dst=some t) (L:t<C.N) (H:σ.eval (.tmp s)=some (.d (.fn f e))) (F:evL σ args.toList=some us) (B:Fb us=true) (h:D8 us++D8 (e.map AV.d)=fs) (g:Es P f fs (fun q=>q=r)):
 LA P C o ⟨[],some (t,r.ren κ),none,r.tok.map fun x=>(κ,x),[κ],[],[],[]⟩ σ:=fun σ' v _ J a w M K Q O=>by
 refine sU A N L (J κ Ab) (tr v (by rw[A];simp[Op.operands,Call.operands]) H) ((trL v fun x T=>by grind [Op.operands,Call.operands]).trans F) B h g a w M K Q ?_
 rintro I R w' ⟨q,rfl,rfl⟩ E
 grind [jA]
def drT (k:Nat) (all:List (Nat×AV)):List (Nat×AV)→List (Nat×AV)
 |[]=>[]
 |(j,u)::r=>bif u.clean k then drT k all r else(j,((lk j all).getD u).share k)::drT k all r
def drB (k:Nat) (all:List (Nat×List AV)):List (Nat×List AV)→List (Nat×List AV)
 |[]=>[]
 |(j,u)::r=>bif Fu k u then drB k all r else(j,Hq k ((lk j all).getD u))::drB k all r
theorem KE {k j:Nat} {e:List (Nat×AV)} {v:AV}:∀{l:List (Nat×AV)},(∀i∈kl l,∃u,lk i e=some u)→lk j (drT k e l)=some v→∃u,lk j e=some u∧v=u.share k
 |[],_,h=>by cases h
 |(i,u)::r,hl,h=>by
  have A:=KE (k:=k) (j:=j) (v:=v) (l:=r) (fun i B=>hl i (Be _ B))
  simp only[drT] at h
  cases q:u.clean k with
  |true=>rw[q] at h;exact A h
  |false=>
   rw[q] at h
   simp only[cond_false,lk] at h
   cases g:Nat.beq i j with
   |true=>
    rw[g] at h
    obtain rfl:=Aw g
    obtain⟨E,F⟩:=hl i (by simp[kl])
    grind
   |false=>rw[g] at h;exact A h
theorem KF {k j:Nat} {e:List (Nat×List AV)} {v:List AV}:∀{l:List (Nat×List AV)},(∀i∈kl l,∃u,lk i e=some u)→lk j (drB k e l)=some v→∃u,lk j e=some u∧v=Hq k u
 |[],_,h=>by cases h
 |(i,u)::r,hl,h=>by
  have A:=KF (k:=k) (j:=j) (v:=v) (l:=r) (fun i B=>hl i (Be _ B))
  simp only[drB] at h
  cases q:Fu k u with
  |true=>rw[q] at h;exact A h
  |false=>
   rw[q] at h
   simp only[cond_false,lk] at h
   cases g:Nat.beq i j with
   |true=>
    rw[g] at h
    obtain rfl:=Aw g
    obtain⟨E,F⟩:=hl i (by simp[kl])
    grind
   |false=>rw[g] at h;exact A h
theorem aK {t:Nat}:∀{l:List Nat},Jo t l=true→t∈l
 |[],h=>by cases h
 |s::r,h=>by
  simp only[Jo,Co] at h
  rcases h with h|h
  ·simp_all
  ·exact Be _ (aK h)
theorem Fp.same {g e:AS} (h:Fp P C o σ g) (q:∀t,lk t e.tm=lk t g.tm) (H:∀t,lk t e.bx=lk t g.bx) (A:∀t,lk t e.tk=lk t g.tk):Fp P C o σ e:=fun a w F K Q v=>h a w F K Q fun B w' E=>v B w' (E.same q H A)
theorem ED {st e:TypeId} {s:Operand} {cs:List D} {d:TypeDesc} (L:o.op= .call {callee:= .builtin .append,args:=#[s,x],argTypes:=#[st,st]}) (X:o.dst=some t) (V:t<C.N) (hs:σ.eval s=some (.own k n sz e cs)) (U:lk k σ.tk=some (n,sz,e))
 (W:σ.eval x=some ux) (J:ux.asSl sz=some (m,ds)) (Y:P.underlying st=some (.slice e)) (T:TyOk P e d z sz by') (Z:z.cells.size=sz) (F:0<sz) (M:n+m≤1000000000) (O:by'≤1000):
 LA P C o ⟨[],some (t,.own k (n+m) sz e (cs++ds)),none,some (k,n+m,sz,e),[],drT k σ.tm σ.tm,drB k σ.bx σ.bx,[k]⟩ σ:=fun σ' E I _=>by
 have N:=tr E (by rw[L];simp[Op.operands,Call.operands]) hs
 have K:=tr E (by rw[L];simp[Op.operands,Call.operands]) W
 have R:lk k σ'.tk=some (n,sz,e):=(I.tk k Ab).trans U
 have g:=I.cx k Ab
 simp only[clX,It.lT,It.lB,oc,Et] at g
 refine(Ym L X V N R K J Y T Z F M O).same (fun j=> ?_) (fun j=> ?_) fun j=>rfl
 ·by_cases q:t=j
  ·grind [Up,It.lT,oc,F1]
  ·rw[Up,It.lT,oc,Ak,Gm _ _ q,Gm _ _ q,sH,Qf]
   cases B:lk j (drT k σ.tm σ.tm) with
   |some v=>
    obtain⟨u,A,rfl⟩:=KE (fun i Q=>mQ Q) B
    have:=I.mt j (by grind [It.lT,oc,kl,List.mem_cons_of_mem,Vw])
    rw[this,A];rfl
   |none=>
    cases A:lk j σ'.tm with
    |none=>rfl
    |some u=>
     rcases xI g.1 A with h|h
     ·rcases Bj.1 (aK h) with h|h
      ·exact Bg h.symm q
      ·obtain⟨v,H⟩:=mQ h;rw[B] at H;cases H
     grind [On]
 ·rw[Xl,It.lB,oc,aB,Qf]
  cases B:lk j (drB k σ.bx σ.bx) with
  |some v=>
   obtain⟨u,A,rfl⟩:=KF (fun i Q=>mQ Q) B
   have:=I.mb j (by simp only[It.lB,oc];exact Vw B)
   rw[this,A];rfl
  |none=>
   cases A:lk j σ'.bx with
   |none=>rfl
   |some u=>
    rcases xJ g.2 A with h|h
    ·obtain⟨v,H⟩:=mQ (aK h);rw[B] at H;cases H
    grind [H4]
theorem eK {st e:TypeId} {s:Operand} {d:TypeDesc} (A:o.op= .call {callee:= .builtin .append,args:=#[s,x],argTypes:=#[st,st]}) (L:o.dst=some t) (I:t<C.N) (M:σ.eval s=some (.d (.v (.slice none 0 0))))
 (J:σ.eval x=some ux) (v:ux.asSl sz=some (m,ds)) (F:P.underlying st=some (.slice e)) (E:TyOk P e d z sz by') (K:z.cells.size=sz) (h:0<sz) (B:m≤1000000000) (q:by'≤1000):
 LA P C o ⟨[],some (t,.own κ m sz e ds),none,some (κ,m,sz,e),[κ],[],[],[]⟩ σ:=fun σ' g _ H=>
 Ru A L I (tr g (by rw[A];simp[Op.operands,Call.operands]) M) (H κ Ab) (tr g (by rw[A];simp[Op.operands,Call.operands]) J) v F E K h B q
end
abbrev Hp (k:Nat) (e:TypeId) (l:List UInt8):AV:= .own k l.length 1 e (Fj l)
section
variable {P:Program} {C:Cx} {o:Oper} {σ:AS} {t:Nat}
theorem tH {st e:TypeId} {M:TypeId} {cs:List D} (F:o.op= .binOp .eql st x (.const (.slice none 0 0)) M) (J:o.dst=some t) (H:t<C.N) (N:P.underlying st=some (.slice e)) (I:σ.eval x=some ux) (q:ux.asSlT sz=some (tg,n,cs)):
 J3 P C o σ (fun σ'=>∃b:Bool,(b=true→n=0)∧σ'=σ.put t (.d (.v (.bool b)))):=by
 rintro a w ⟨bm,gt,fp,B⟩ K Q E
 obtain⟨h,c,L,O,R,T,-⟩:=((B.eval I).asSlT q).shape
 have g:(execOp a.eval o).run P w= .ok (.value (.bool h.isNone)) w:=by
  have v:a.eval (.const (.slice none 0 0))= .slice none 0 0:=rfl
  have A:(eqGuard .eql st x (.const (.slice none 0 0)) (.slice h n c) (.slice none 0 0)).run P w= .ok () w:=by simp[eqGuard]
  simp only[execOp,F,L,v,Au,A,A6,Lib.run_eql_slice_nil w st e h n c 0 0 N,Bs]
 unfold Oper.wp
 rw[g,Oper.upon_value,J]
 refine E _ _ _ ⟨h.isNone,fun U=> ?_,rfl⟩ ⟨bm,gt,fp,B.put H (.d (.v _))⟩
 simp_all
end
abbrev Ff:AV:= .d (.v (.slice none 0 0))
theorem RAs.les {B:Nat} {fp:Nat→Nat→Prop} {w:World} {bm:BM} {gt:Nat→Value} (e:∀b o,bm.z b o→fp b o):∀{us fs:List AV} {vs:List Value},AV.les us fs→RAs B fp w bm gt us vs→RAs B fp w bm gt fs vs
 |_,_,[],.nil,h=>h
 |_,_,_::_,.cons h r,hh=>⟨hh.1.le e h,RAs.les e r hh.2⟩
theorem Es.les {P:Program} {f:FuncId} {us fs:List AV} {Φ:AV→Prop} (h:Es P f fs Φ) (A:AV.les us fs):Es P f us Φ:=
 ⟨h.1,fun w fp0 q vs B g e v=>h.2 w fp0 q vs B g e (RAs.les e A v)⟩
abbrev J5 {α:Type} (tg:Bool) (sz:Nat) (f:α→List D) (l:List α):D:= .sl tg l.length sz (l.flatMap f)
abbrev Fy {α:Type} (k:Nat) (sz:Nat) (e:TypeId) (f:α→List D) (l:List α):AV:= .own k l.length sz e (l.flatMap f)
theorem xQ {e:Type} {f:e→List D} {sz:Nat} (g:∀x,(f x).length=sz):∀{l:List e} {i:Nat} {x:e},l[i]?=some x→((l.flatMap f).drop (i*sz)).take sz=f x
 |[],_,_,h=>by simp at h
 |y::r,0,x,h=>by
  grind
 |y::r,i+1,x,h=>by
  rw[De] at h
  rw[A4,Nat.succ_mul,List.drop_append,List.drop_of_length_le (by rw[g];omega),g,Cj,Ap]
  exact xQ g h
theorem fN {g:Type} {f:g→List D} {sz:Nat} (e:∀x,(f x).length=sz):∀(l:List g) (i:Nat),(l.flatMap f).take (i*sz)=(l.take i).flatMap f
 |l,0=>by simp
 |[],i+1=>by simp
 |y::r,i+1=>by
  rw[A4,List.take_succ_cons,A4,Nat.succ_mul,List.take_append,B3 (by rw[e];omega),e,Cj,fN e r i]
theorem fO {g:Type} {f:g→List D} {sz:Nat} (e:∀x,(f x).length=sz):∀(l:List g) (i:Nat),(l.flatMap f).drop (i*sz)=(l.drop i).flatMap f
 |l,0=>by simp
 |[],i+1=>by simp
 |y::r,i+1=>by
  rw[A4,List.drop_succ_cons,Nat.succ_mul,List.drop_append,List.drop_of_length_le (by rw[e];omega),e,Cj,Ap,fO e r i]
section
variable {P:Program} {C:Cx} {o:Oper} {σ:AS} {t:Nat}
theorem mS {e:TypeId} (p q:Bool) (g:P.underlying e=some .bool) (w:World):(Op.equal e (.bool p) (.bool q)).run P w= .ok (p==q) w:=by
 have h:∀d:Nat,(Op.equalIn (d+1) e (.bool p) (.bool q)).run P w= .ok (p==q) w:=fun d=>by simp[Op.equalIn,Bf g]
 simp[Op.equal,Op.maxDepth,h 9999]
end
section
variable {P:Program} {C:Cx} {o:Oper} {σ:AS} {t:Nat}
theorem jB (m:Nat):IntKind.u8.wrap (m:Int)=((UInt8.ofNat m).toNat:Int):=by
 rw[IntKind.wrap_u8,B6];omega
end
mutual
def AV.frz (k:Nat) (ds:List D):AV→AV
 | .d x=> .d x
 | .ptr j o=>match Nat.beq j k with
   |true=> .d (.cp false (ds.drop o))
   |false=> .ptr j o
 | .own j n sz e cs=> .own j n sz e cs
 | .agg cs=> .agg (L5 k ds cs)
 | .tup cs=> .tup (L5 k ds cs)
 | .sem φ=> .sem φ
 | .cl f fs cs=> .cl f (L5 k ds fs) (L5 k ds cs)
 | .pk j o n sz=>match Nat.beq j k with
   |true=> .sem (fun _ _ _=>True)
   |false=> .pk j o n sz
def L5 (k:Nat) (ds:List D):List AV→List AV
 |[]=>[]
 |c::r=>c.frz k ds::L5 k ds r
end
theorem Lg (k:Nat) (ds:List D) (l:List AV):L5 k ds l=l.map (AV.frz k ds):=by
 induction l with
 |nil=>rfl
 |cons d r e=>rw[L5,e];rfl
theorem RA.frz {B:Nat} {fp:Nat→Nat→Prop} {w:World} {bm:BM} {gt:Nat→Value} {k:Nat} {ds:List D} (I:∀o,Rd B fp w (.cp false (ds.drop o)) (.pointer (some ⟨bm k,o,none⟩))) {u:AV} {v:Value} (h:RA B fp w bm gt u v):RA B fp w bm gt (u.frz k ds) v:=by
 have lst:∀(l:List AV) (vs:List Value),(∀(i:Nat) u v,l[i]?=some u→vs[i]?=some v→RA B fp w bm gt (u.frz k ds) v)→∀(i:Nat) u v,(L5 k ds l)[i]?=some u→vs[i]?=some v→RA B fp w bm gt u v:=fun l vs h i u v K M=>by
  rw[Lg,Bk,A8] at K
  grind
 induction h with
 |d h=>exact .d h
 |@ptr j o=>
  unfold AV.frz
  cases H:Nat.beq j k with
  |true=>obtain rfl:=Aw H;exact .d (I o)
  |false=>exact .ptr
 |own h=>exact .own h
 |agg vs e F q=>unfold AV.frz;exact .agg vs (by rw[Lg,Ba];exact e) (lst _ _ q)
 |tup vs e F q=>unfold AV.frz;exact .tup vs (by rw[Lg,Ba];exact e) (lst _ _ q)
 |sem g h=>exact .sem g h
 |cl us vs J e N F E A=>unfold AV.frz;exact .cl us vs (by rw[Lg,Ba];exact J) (by rw[Lg,Ba];exact e) (lst _ _ E) (lst _ _ A)
 |@pk j o n sz c g L=>
  unfold AV.frz
  cases H:Nat.beq j k with
  |true=>exact .sem rfl fun _ _ _ _ _=>trivial
  |false=>exact .pk g L
def frT (k:Nat) (ds:List D):List (Nat×AV)→List (Nat×AV)
 |[]=>[]
 |(j,c)::r=>(j,c.frz k ds)::frT k ds r
def frB (k:Nat) (ds:List D):List (Nat×List AV)→List (Nat×List AV)
 |[]=>[]
 |(j,c)::r=>match Nat.beq j k with
  |true=>frB k ds r
  |false=>(j,L5 k ds c)::frB k ds r
theorem KG (k t:Nat) (ds:List D):∀l:List (Nat×AV),lk t (frT k ds l)=(lk t l).map (AV.frz k ds)
 |[]=>rfl
 |(j,c)::r=>by
  simp only[frT,lk]
  cases Nat.beq j t with
  |true=>rfl
  |false=>exact KG k t ds r
theorem Xq {k t:Nat} {ds:List D} {c:List AV}:∀{l:List (Nat×List AV)},lk t (frB k ds l)=some c→t≠k∧∃g,lk t l=some g∧c=L5 k ds g
 |[],h=>by cases h
 |(j,c')::r,h=>by
  simp only[frB] at h
  cases e:Nat.beq j k with
  |true=>
   rw[e] at h
   obtain⟨v,g,B,A⟩:=Xq h
   obtain rfl:=Aw e
   grind [Gm]
  |false=>
   rw[e] at h
   simp only[lk] at h⊢
   cases q:Nat.beq j t with
   |true=>
    grind
   |false=>rw[q] at h;exact Xq h
def Ent (σ σ':AS):Prop:=∀(C:Cx) (a:Act) (w:World),G C σ a w→G C σ' a w
theorem GG.frz {C:Cx} {bm:BM} {gt:Nat→Value} {fp:Nat→Nat→Prop} {σ:AS} {a:Act} {w:World} (q:GG C bm gt fp σ a w) {k:Nat} {cs:List AV} {ds:List D} (hk:lk k σ.bx=some cs) (hd:Nv cs=some ds):
 ∃E,GG C bm gt E ⟨frT k ds σ.tm,frB k ds σ.bx,σ.tk⟩ a w∧∀n sz c,aD cs=true→n*sz≤ds.length→n≤c→c≤maxLen→Rd C.W.heap.size E w (.sl false n sz (ds.take (n*sz))) (.slice (some ⟨bm k,0,none⟩) n c):=by
 have hB:=q.bx k cs hk
 obtain⟨cur,e,h1,h2,h3⟩:=hB.obj
 obtain⟨q1,q2⟩:=Tf (B:=C.W.heap.size) (fp:=fp) (w:=w) (bm:=bm) (gt:=gt) hd
 let E:Nat→Nat→Prop:=fun b o=>fp b o∨(b=bm k∧o<cs.length)
 have keepD:∀{d v},Rd C.W.heap.size fp w d v→Rd C.W.heap.size E w d v:=fun hr=>hr.keep (At _) (fun _ _ x=> .inl x) (fun _ _ _=>rfl)
 have L:∀{u v},RA C.W.heap.size fp w bm gt u v→RA C.W.heap.size E w bm gt u v:=fun hr=>hr.keep q.zf (NC.refl w) (At _) (fun _ _ x=> .inl x) (fun _ _ _=>rfl)
 have W:∀o,Rd C.W.heap.size E w (.cp false (ds.drop o)) (.pointer (some ⟨bm k,o,none⟩)):=fun o=>by
  refine .cp ((cur.toList.take cs.length).drop o) (by grind) (fun i d u J A=> ?_) (fun i u A=> ?_)
  ·rw[B2] at J A
   have I:o+i<cs.length:=by rw[←q1];exact(Ew.1 J).1
   have M:=Ev I
   grind
  ·rw[B2] at A
   have I:o+i<cs.length:=by
    have:=(Ew.1 A).1
    rw[Ec] at this
    omega
   rw[List.getElem?_take_of_lt I] at A
   have hu':cur[o+i]?=some u:=by simpa using A
   exact⟨.inr ⟨rfl,I⟩,fun h=>(by cases h),by grind [cell_of_row]⟩
 refine⟨E,{sz:=q.sz,nN:=q.nN,gd:=q.gd,za:=q.za,zb:=q.zb,zf:=fun b o hz=> .inl (q.zf b o hz),ztk:=q.ztk,df:=q.df,tm:=fun t u A=> ?_,bx:=fun j c K=> ?_,bxi:=fun j X c c' K N he=> ?_,tk:=fun j n sz e K=> ?_,tki:=q.tki,tkb:=fun j X x c K N=> ?_,fpb:=fun b o F=> ?_,fp0:=fun b o F=> .inl (q.fp0 b o F),fpB:=q.fpB,bel:=q.bel},fun n sz c ho hn hc hm=> ?_⟩
 ·rw[KG,A8] at A
  obtain⟨u0,O,rfl⟩:=A
  obtain⟨v,Y,k2⟩:=q.tm t u0 O
  exact⟨v,Y,(L k2).frz W⟩
 ·obtain⟨Z,Q,H,rfl⟩:=Xq K
  have hy:=q.bx j Q H
  obtain⟨U,e2,Y,k2,k3⟩:=hy.obj
  refine⟨hy.own,fun o F=> ?_,U,e2,Y,by rw[Lg,Ba];exact k2,fun i u v A hv=> ?_⟩
  ·rcases F with F|⟨F,_⟩
   ·exact hy.un o F
   ·exact Z (q.bxi j k Q cs H hk F)
  ·rw[Lg,Bk,A8] at A
   obtain⟨u0,O,rfl⟩:=A
   exact(L (k3 i u0 v O hv)).frz W
 ·obtain⟨_,Q,H,_⟩:=Xq K
  obtain⟨_,c1,hc1,_⟩:=Xq N
  exact q.bxi j X Q c1 H hc1 he
 ·have M:=q.tk j n sz e K
  exact⟨M.own,fun g T o ho F=>F.elim (M.tail g T o ho) (fun hh=>q.tkb j k _ cs K hk (by rw[T,hh.1]))⟩
 ·obtain⟨_,Q,H,_⟩:=Xq N
  exact q.tkb j X x Q K H
 ·rcases F with F|⟨rfl,F⟩
  ·exact q.fpb b o F
  ·exact⟨.inr hB.own,hB.lt⟩
 ·have R:(ds.take (n*sz)).length=n*sz:=by rw[Ec];omega
  refine .sl (cur.toList.take (n*sz)) hc hm R ?_ (fun e=>by cases e) (fun u A=> ?_) (fun i d u J A=> ?_) (fun i u A=> ?_)
  ·grind
  ·obtain⟨i,V,rfl⟩:=Df A
   have hi':i<cs.length:=by rw[Ec] at V;omega
   have M:=Ev hi'
   refine(h3 i _ _ M ?_).oneCell (Vt ho M)
   simp
  ·have V:i<n*sz:=by have:=(Ew.1 J).1;omega
   rw[List.getElem?_take_of_lt V] at J A
   have I:i<cs.length:=Aa
   have M:=Ev I
   grind
  ·have V:i<n*sz:=by have:=(Ew.1 A).1;rw[Ec] at this;omega
   rw[List.getElem?_take_of_lt V] at A
   exact⟨bm k,0,rfl,.inr ⟨rfl,Aa⟩,fun h=>(by cases h),by rw[cell_of_row w _ _ _ _ _ h1,A0];simpa using A⟩
theorem UP (q:lk k σ.bx=some cs) (v:Nv cs=some ds):Ent σ ⟨frT k ds σ.tm,frB k ds σ.bx,σ.tk⟩:=by
 rintro C a w ⟨bm,gt,fp,g⟩
 obtain⟨e,h,_⟩:=g.frz q v
 exact⟨bm,gt,e,h⟩
section
variable {P:Program} {C:Cx} {o:Oper} {σ:AS} {t:Nat}
theorem GG.evA {C:Cx} {bm:BM} {gt:Nat→Value} {fp:Nat→Nat→Prop} {σ:AS} {a:Act} {w:World} (h:GG C bm gt fp σ a w):∀{l:List Operand} {us:List AV},Proofs.YtbedjionhmaafaaGreatDoor.evL σ l=some us→(l.map a.eval).length=us.length∧∀(i:Nat) u v,us[i]?=some u→(l.map a.eval)[i]?=some v→RA C.W.heap.size fp w bm gt u v
 |[],us,hl=>by cases hl;grind
 |x::r,us,hl=>by
  unfold Proofs.YtbedjionhmaafaaGreatDoor.evL at hl
  split at hl
  ·rename_i u A q F
   cases hl
   obtain⟨E,H⟩:=GG.evA h F
   refine⟨by simpa using E,fun i B v e g=> ?_⟩
   cases i with
   |zero=>simp at e g;subst e g;exact h.eval q
   |succ i=>exact H i B v (by simpa using e) (by simpa using g)
  ·cases hl
theorem eL {first captured:Array Operand} (ho:o.op= .makeFunc (.func f) first captured) (hd:o.dst=some t) (ht:t<C.N) (hf:evL σ first.toList=some fs) (hc:evL σ captured.toList=some cs):Fp P C o σ (σ.put t (.cl f fs cs)):=
 E1 hd ht fun a w bm gt fp hg=>by
  obtain⟨k1,k2⟩:=hg.evA hf
  obtain⟨k3,k4⟩:=hg.evA hc
  refine⟨.func (.func f) (first.toList.map a.eval).toArray (captured.toList.map a.eval).toArray,?_,.cl _ _ k1 k3 k2 k4⟩
  simp only[execOp,ho,Instr.makeFunc]
  have e1:(first.toList.map a.eval).toArray=first.map a.eval:=by obtain⟨l⟩:=first;simp
  have e2:(captured.toList.map a.eval).toArray=captured.map a.eval:=by obtain⟨l⟩:=captured;simp
  rw[e1,e2]
  simp[go_sem]
theorem mT {first e:Array Operand} (g:o.op= .makeFunc (.func f) first e) (E:o.dst=some t) (v:t<C.N) (A:evL σ first.toList=some fs) (q:evL σ e.toList=some cs):LA P C o ⟨[],some (t,.cl f fs cs),none,none,[],[],[],[]⟩ σ:=fun _ h _ _=>
 eL g E v ((trL h fun x B=>by rw[g];show x∈(first++e).toList;grind).trans A) ((trL h fun x B=>by rw[g];show x∈(first++e).toList;grind).trans q)
theorem tI {T:List AV} {Φ:AV→Prop} (Y:o.op= .call {callee:= .value (.tmp s),args:=args,argTypes:=ats}) (M:o.dst=some t) (Z:t<C.N) (X:σ.clean κ=true)
 (L:σ.eval (.tmp s)=some (.cl f fs cs)) (O:evL σ args.toList=some us) (A:(Fb fs&&Fb us&&Fb cs)=true) (N:D8 fs++D8 us++D8 cs=T) (e:Es P f T Φ):J3 P C o σ (fun σ'=>∃r,Φ r∧σ'=σ.res t κ r):=by
 rintro a w ⟨bm,gt,fp,B⟩ K Q W
 subst N
 simp only[Et] at A
 have I:=B.eval (x:= .tmp s) L
 generalize hv:a.eval (.tmp s)=v at I
 cases I with
 |cl ms U h3 h4 h6 h7=>
  have F:∀{us vs g q},RAs w.heap.size fp w ⟨fun _=>0,bm.z⟩ (fun _=>undef) us vs→RAs w.heap.size fp w ⟨fun _=>0,bm.z⟩ (fun _=>undef) g q→RAs w.heap.size fp w ⟨fun _=>0,bm.z⟩ (fun _=>undef) (us++g) (vs++q):=by
   intro us
   induction us with
   |nil=>intro vs g q h R;cases vs with|nil=>exact R|cons=>exact h.elim
   |cons u us J=>intro vs g q h R;cases vs with|nil=>exact h.elim|cons v vs=>exact⟨h.1,J h.2 R⟩
  have H:∀(l:List AV) (ms:List Value),ms.length=l.length→Fb l=true→(∀(i:Nat) d u,l[i]?=some d→ms[i]?=some u→RA C.W.heap.size fp w bm gt d u)→RAs w.heap.size fp w ⟨fun _=>0,bm.z⟩ (fun _=>undef) (D8 l) ms:=by
   intro l
   induction l with
   |nil=>intro ms h _ _;rw[Bn h];trivial
   |cons x l J=>
    intro ms h A V
    simp only[Fb,Et] at A
    cases ms with
    |nil=>simp at h
    |cons m ms=>exact⟨(V 0 x m rfl rfl).give (bm:=bm) (bm':=⟨fun _=>0,bm.z⟩) (fun _ _ x=>x) A.1,J ms (by simpa using h) A.2 fun i d u M O=>V (i+1) d u (by simpa using M) (by simpa using O)⟩
  have hA:=e.2 w fp bm.z (ms++args.toList.map a.eval++U) B.gdw (fun b o L=>(B.fpb b o L).2) B.zf (F (F (H _ _ h3 A.1.1 h6) (B.evL O A.1.2)) (H _ _ h4 A.2 h7))
  have E:(execOp a.eval o).run P w= .ok (.enter f (ms++args.toList.map a.eval++U).toArray) w:=by
   simp only[execOp,Y,resolve,hv,Deferred.ofValue,invoke,Au,Bs,A6,e.1]
   obtain⟨l⟩:=args
   simp
  unfold Oper.wp
  rw[E]
  exact Uo B M Z X hA W
theorem KH {A:List AV} (v:o.op= .call {callee:= .value (.tmp s),args:=args,argTypes:=ats}) (N:o.dst=some t) (L:t<C.N) (H:σ.eval (.tmp s)=some (.cl f fs cs)) (F:evL σ args.toList=some us) (B:(Fb fs&&Fb us&&Fb cs)=true) (g:D8 fs++D8 us++D8 cs=A) (e:Es P f A (fun h=>h=r)):
 LA P C o ⟨[],some (t,r.ren κ),none,r.tok.map fun x=>(κ,x),[κ],[],[],[]⟩ σ:=fun σ' q _ J a w M K Q O=>by
 refine tI v N L (J κ Ab) (tr q (by rw[v];simp[Op.operands,Call.operands]) H) ((trL q fun x T=>by grind [Op.operands,Call.operands]).trans F) B g e a w M K Q ?_
 rintro I R w' ⟨h,rfl,rfl⟩ E
 grind [jA]
end
end Go.Proofs.YtbedjionhmaafaaGreatDoor
namespace Go.Proofs.YtbedjionhmaafaaGreatDoor
open Go.RowKit
def Zj (l:List Oper) (o1:Oper) (its:List It) (σ:AS):Bool:=Ot (l++[o1]).toArray (Vx (l++[o1]) []) 0 l its&&Sl σ its&&(List.range l.length).all (fun j=>rch (Vx (l++[o1]) []) l.length j)
theorem xR {P:Program} {o:Oper} {a:Act} {w:World} {K v A:Act→World→Prop} {Q:Exit→Act→World→Prop}
 (h:o.wp P a w v Q) (g:∀a w,v a w→K a w):o.wp P a w K (Exit.then A Q):=by
 unfold Oper.wp at*
 generalize (execOp a.eval o).run P w=r at*
 cases r with
 |ok n w'=>
  cases n<;>simp only[Oper.upon] at h⊢ <;>first|exact g _ _ h|exact Calls.mono h (fun e B q=>by cases e<;>first|exact g _ _ q|exact q)|grind [Rows.mono]
 |halt x w'=>cases x<;>simp only[Oper.upon] at h⊢ <;>exact h
theorem mU {P:Program} {C:Cx} {Φ:Exit→AS→Prop} {id:Nat} {l:List Oper} {g:Oper} {its:List It} {σ:AS} (hm:P.follows .mixedOrders=true) (ha:Nu (l++[g]).toArray=true) (hs:Scr P C (l++[g]).toArray l its σ) (R:Zj l g its σ=true) (hf:P1 P C (l++[g]).toArray Φ [g] (σ.addAll its)):
 G3 P C (.region id (l++[g]).toArray true) Φ σ:=by
 intro a w hG
 have Q:=xN hs
 simp only[Zj,Et] at R
 obtain⟨⟨I,U⟩,L⟩:=R
 have q:∀d:Nat→Bool,(∀(m:Nat) o',(l++[g])[m]?=some o'→d m=true→Kc o' d)→∀k j o,(l++[g])[k]?=some o→Kc o d→rch (Vx (l++[g]) []) k j=true→d j=true:=fun d F k j o A E K=>
  aI d (l++[g]) [] (l++[g]) Ab Ab (fun k j W=>by simp at W) k j (Ew.1 A).1 o A F E K
 have B:∀d:Nat→Bool,d l.length=false→(∀(m:Nat) o',l[m]?=some o'→d m=true→Kc o' d)→∀(m:Nat) o',(l++[g])[m]?=some o'→d m=true→Kc o' d:=fun d E F m o' ho' hdm=>by
  grind
 have T:∀(k:Nat) o,l[k]?=some o→(l++[g])[k]?=some o:=fun k o A=>by
  grind
 have H:∀d:Nat→Bool,d l.length=false→(∀(m:Nat) o',l[m]?=some o'→d m=true→Kc o' d)→∀k j o,l[k]?=some o→Kc o d→rch (Vx (l++[g]) []) k j=true→d j=true:=fun d Z F k j o A E K=>q d (B d Z F) k j o (T k o A) E K
 refine Nd hm ha (fun d a w=>(d l.length=false∧∃σ',G C σ' a w∧Sim l its σ d σ')∨(d l.length=true∧(∀k,k<l.length→d k=true)∧T5 C Φ .normal a w)) (.inl ⟨rfl,σ,?_,?_⟩) ?_ ?_
 ·obtain⟨bm,gt,fp,hg⟩:=hG
  exact⟨bm,gt,fp,hg.grow (Below.drew (Bq _ _))⟩
 ·exact ry U
 ·
  have all:∀(r:List Oper) (k:Nat),(∀(i:Nat) o,r[i]?=some o→(l++[g])[k+i]?=some o)→Q0 P (l++[g]).toArray (T5 C Φ) (fun d a w=>(d l.length=false∧∃σ',G C σ' a w∧Sim l its σ d σ')∨(d l.length=true∧(∀k,k<l.length→d k=true)∧T5 C Φ .normal a w)) k r:=by
   intro r
   induction r with
   |nil=>intro k _;trivial
   |cons o r ih=>
    intro k K
    have A:=K 0 o rfl
    rw[Nat.add_zero] at A
    refine⟨fun d a w E J hJ=> ?_,ih (k+1) fun i o' hi'=>by rw[show k+1+i=k+(i+1) by omega];exact K (i+1) o' (by simpa using hi')⟩
    by_cases W:k<l.length
    ·have hi:=Ev (l:=its) (i:=k) (by grind)
     rcases hJ with⟨O,σ',M,v⟩|⟨O,h2,Y⟩
     ·exact ej hs I (by grind) hi E J (fun k j o A E K=>H d O v.dep k j o A E K) M v fun N w' Y h4=> .inl ⟨by grind [Is],_,Y,h4⟩
     ·grind
    ·have hlt:=(Ew.1 A).1
     rw[En,Cc] at hlt
     obtain rfl:k=l.length:=Aa
     rw[Bw (At _),Nat.sub_self] at A
     simp only[Cy,A7] at A
     subst A
     rcases hJ with⟨O,σ',M,v⟩|⟨O,h2,Y⟩
     ·have V:∀j,j<l.length→d j=true:=fun j hj=>
       q d (B d O v.dep) l.length j g (by grind) J (B0.1 L j (List.mem_range.2 hj))
      have X:=i3 Q V M v
      have e:=hf a w X
      have W:∀N w',T5 C Φ .normal N w'→(Io d l.length l.length=false∧∃σ',G C σ' N w'∧Sim l its σ (Io d l.length) σ')∨(Io d l.length l.length=true∧(∀j,j<l.length→Io d l.length j=true)∧T5 C Φ .normal N w'):=fun N w' hl=> .inr ⟨Jh _ _,fun j hj=>by grind [Is],hl⟩
      unfold wpList at e⊢
      split
      ·rename_i hw
       rw[Aj hw] at e
       rcases e with e|e
       ·exact .inl (xR e fun N w' h=>W N w' h)
       ·exact .inr e
      ·rename_i hw
       rw[Ai hw] at e
       exact W _ _ e
     ·rw[O] at E;cases E
  grind
 grind
end Go.Proofs.YtbedjionhmaafaaGreatDoor
