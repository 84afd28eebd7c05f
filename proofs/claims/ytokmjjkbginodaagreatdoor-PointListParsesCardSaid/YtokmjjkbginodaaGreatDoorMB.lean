/- MB: the texts Abs6 Abs7 Abs8 Abs9 AbsL AbsB AbsX AbsY Frz AbsD, one behind the other. No condition but what each lemma says. -/
import Derived.Test.YtokmjjkbginodaaGreatDoorMA
import Derived.Test.YtokmjjkbginodaaGreatDoorGRes
import Derived.Scope
import Derived.Test.YtokmjjkbginodaaGreatDoorGRegion
set_option maxRecDepth 100000
set_option maxHeartbeats 16000000
namespace Go.Proofs.YtokmjjkbginodaaGreatDoor
open Go.RowKit
inductive D.le:D→D→Prop
 |refl (d:D):D.le d d
 |nil (t:Bool) (sz:Nat):D.le (.v (.slice none 0 0)) (.sl t 0 sz [])
 |tag (t:Bool) (n sz:Nat) (cs:List D):D.le (.sl true n sz cs) (.sl t n sz cs)
 |sl {t:Bool} {n sz:Nat} {cs cs':List D} (hl:cs.length=cs'.length) (h:∀(i:Nat) x y,cs[i]?=some x→cs'[i]?=some y→D.le x y):D.le (.sl t n sz cs) (.sl t n sz cs')
 |trans {a b c:D} (h:D.le a b) (h':D.le b c):D.le a c
def AV.fz (x:D):AV:= .sem (fun z w v=>Rd 0 z w x v)
inductive AV.le:AV→AV→Prop
 |refl (u:AV):AV.le u u
 |d {x y:D} (h:D.le x y):AV.le (.d x) (.d y)
 |own (t:Bool) (k n sz:Nat) (e:TypeId) (cs:List D):AV.le (.own k n sz e cs) (.d (.sl t n sz cs))
 |agg {us vs:List AV} (hl:us.length=vs.length) (h:∀(i:Nat) u v,us[i]?=some u→vs[i]?=some v→AV.le u v):AV.le (.agg us) (.agg vs)
 |tup {us vs:List AV} (hl:us.length=vs.length) (h:∀(i:Nat) u v,us[i]?=some u→vs[i]?=some v→AV.le u v):AV.le (.tup us) (.tup vs)
 |z (x:D):AV.le (AV.fz x) (.d x.un)
theorem Rd.retag {B:Nat} {fp:Nat→Nat→Prop} {w:World} (t:Bool) {n sz:Nat} {cs:List D} {v:Value} (h:Rd B fp w (.sl true n sz cs) v):Rd B fp w (.sl t n sz cs) v:=by
 cases t with
 |true=>exact h
 |false=>exact h.untag
theorem Rd.le {B:Nat} {fp:Nat→Nat→Prop} {w:World} {x y:D} (hl:D.le x y):∀{v:Value},Rd B fp w x v→Rd B fp w y v:=by
 induction hl with
 |refl d=>exact fun h=>h
 |nil t sz=>intro v h;rw[(RA.d (bm:=⟨fun _=>0,fun _ _=>False⟩) (gt:=fun _=>undef) h).val];exact Gq t sz
 |tag t n sz cs=>exact fun h=>h.retag t
 |@sl t n sz cs cs' hl h ih=>
  intro v hv
  cases hv with
  |sl us h1 h2 h3 h4 h5 h6 h7 h8=>
   refine .sl us h1 h2 (hl▸h3) (h4.trans hl) h5 h6 (fun i d u hd hu=> ?_) h8
   have hlt:i<cs.length:=by rw[hl];exact(Aw.1 hd).1
   exact ih i _ d (Am hlt) hd (h7 i _ u (Am hlt) hu)
 |trans _ _ ih1 ih2=>exact fun h=>ih2 (ih1 h)
theorem RA.le {B:Nat} {fp:Nat→Nat→Prop} {w:World} {bm:BM} {gt:Nat→Value} {u u':AV} (hz:∀b o,bm.z b o→fp b o) (hl:AV.le u u'):∀{v:Value},RA B fp w bm gt u v→RA B fp w bm gt u' v:=by
 induction hl with
 |refl u=>exact fun h=>h
 |d hd=>
  intro v h
  cases h with
  |d h=>exact .d (h.le hd)
 |own t k n sz e cs=>intro v h;cases h with|own h=>exact .d (h.retag t)
 |z x=>
  intro v h
  generalize hq:AV.fz x=q at h
  cases h with
  |sem h1 h=>
   unfold AV.fz at hq
   cases hq
   have h2:Rd 0 bm.z w x v:=h bm.z w (fun _ _ x=>x) (fun _ _ _=>rfl) (NC.refl w)
   exact .d (h2.keep (Nat.le_refl 0) hz (fun _ _ _=>rfl):Rd 0 fp w x v).un
  |d=>cases hq
  |ptr=>cases hq
  |own=>cases hq
  |agg=>cases hq
  |tup=>cases hq
  |cl=>cases hq
  |pk=>cases hq
 |agg hl h ih=>
  intro v hv
  cases hv with
  |agg vs h4 h7=>
   refine .agg vs (h4.trans hl) fun i x y hx hy=> ?_
   have hlt:=(Aw.1 hx).1
   exact ih i _ x (Am (hl▸hlt)) hx (h7 i _ y (Am (hl▸hlt)) hy)
 |tup hl h ih=>
  intro v hv
  cases hv with
  |tup vs h4 h7=>
   refine .tup vs (h4.trans hl) fun i x y hx hy=> ?_
   have hlt:=(Aw.1 hx).1
   exact ih i _ x (Am (hl▸hlt)) hx (h7 i _ y (Am (hl▸hlt)) hy)
inductive AV.les:List AV→List AV→Prop
 |nil:AV.les [] []
 |cons {u v:AV} {us vs:List AV} (h:AV.le u v) (r:AV.les us vs):AV.les (u::us) (v::vs)
theorem AV.les_len {us vs:List AV} (h:AV.les us vs):us.length=vs.length:=by
 induction h with
 |nil=>rfl
 |cons h r ih=>simp[ih]
theorem AV.les_get {us vs:List AV} (h:AV.les us vs):∀(i:Nat) u v,us[i]?=some u→vs[i]?=some v→AV.le u v:=by
 induction h with
 |nil=>intro i u v hu;simp at hu
 |cons h r ih=>
  intro i u v hu hv
  cases i with
  |zero=>simp at hu hv;subst hu hv;exact h
  |succ i=>exact ih i u v (by simpa using hu) (by simpa using hv)
theorem AV.le_tup {us vs:List AV} (h:AV.les us vs):AV.le (.tup us) (.tup vs):= .tup (AV.les_len h) (AV.les_get h)
theorem AV.le_agg {us vs:List AV} (h:AV.les us vs):AV.le (.agg us) (.agg vs):= .agg (AV.les_len h) (AV.les_get h)
theorem AV.les_refl:∀us:List AV,AV.les us us
 |[]=> .nil
 |u::us=> .cons (.refl u) (AV.les_refl us)
mutual
def AV.give:AV→AV
 | .d x=> .d x.un
 | .ptr k o=> .ptr k o
 | .own _ n sz _ cs=> .d (.sl false n sz (D.uns cs))
 | .agg cs=> .agg (AV.gives cs)
 | .tup cs=> .tup (AV.gives cs)
 | .sem φ=> .sem φ
 | .cl f fs cs=> .cl f (AV.gives fs) (AV.gives cs)
 | .pk k o n sz=> .pk k o n sz
def AV.gives:List AV→List AV
 |[]=>[]
 |c::r=>c.give::AV.gives r
end
theorem AV.gives_eq (l:List AV):AV.gives l=l.map AV.give:=by
 induction l with
 |nil=>rfl
 |cons d r ih=>rw[AV.gives,ih];rfl
mutual
def AV.noPtr:AV→Bool
 | .d _=>true
 | .ptr _ _=>false
 | .own _ _ _ _ _=>true
 | .agg cs=>AV.noPtrs cs
 | .tup cs=>AV.noPtrs cs
 | .sem _=>true
 | .cl _ fs cs=>AV.noPtrs fs&&AV.noPtrs cs
 | .pk _ _ _ _=>false
def AV.noPtrs:List AV→Bool
 |[]=>true
 |c::r=>c.noPtr&&AV.noPtrs r
end
theorem AV.noPtrs_get:∀{l:List AV} {i:Nat} {u:AV},AV.noPtrs l=true→l[i]?=some u→u.noPtr=true
 |[],_,_,_,h=>by simp at h
 |c::r,0,u,hc,h=>by simp[AV.noPtrs] at hc h;subst h;exact hc.1
 |c::r,i+1,u,hc,h=>by
  simp only[AV.noPtrs,At] at hc
  exact AV.noPtrs_get hc.2 (by simpa using h)
theorem RA.give {B B':Nat} {fp:Nat→Nat→Prop} {w:World} {bm bm':BM} {gt gt':Nat→Value} {u:AV} {v:Value} (hz:∀b o,bm.z b o→bm'.z b o) (h:RA B fp w bm gt u v) (hn:u.noPtr=true):RA B' fp w bm' gt' u.give v:=by
 induction h with
 |d h=>exact .d h.un
 |sem h1 h=>exact .sem h1 fun z' w' k1 k2 k3=>h z' w' (fun b o hb=>k1 b o (hz b o hb)) (fun b o hb=>k2 b o (hz b o hb)) k3
 |ptr=>cases hn
 |pk h=>cases hn
 |cl us vs h3 h4 h6 h7 ih6 ih7=>
  simp only[AV.noPtr,At] at hn
  unfold AV.give
  refine .cl us vs (by rw[AV.gives_eq,List.length_map];exact h3) (by rw[AV.gives_eq,List.length_map];exact h4) (fun i u v hu hv=> ?_) (fun i u v hu hv=> ?_)
  ·rw[AV.gives_eq,List.getElem?_map,Option.map_eq_some_iff] at hu
   obtain⟨u0,hu0,rfl⟩:=hu
   exact ih6 i u0 v hu0 hv (AV.noPtrs_get hn.1 hu0)
  ·rw[AV.gives_eq,List.getElem?_map,Option.map_eq_some_iff] at hu
   obtain⟨u0,hu0,rfl⟩:=hu
   exact ih7 i u0 v hu0 hv (AV.noPtrs_get hn.2 hu0)
 |own h=>exact .d h.un
 |agg vs h4 h7 ih=>
  unfold AV.give
  refine .agg vs (by rw[AV.gives_eq,List.length_map];exact h4) fun i u v hu hv=> ?_
  rw[AV.gives_eq,List.getElem?_map,Option.map_eq_some_iff] at hu
  obtain⟨u0,hu0,rfl⟩:=hu
  exact ih i u0 v hu0 hv (AV.noPtrs_get (by simpa only[AV.noPtr] using hn) hu0)
 |tup vs h4 h7 ih=>
  unfold AV.give
  refine .tup vs (by rw[AV.gives_eq,List.length_map];exact h4) fun i u v hu hv=> ?_
  rw[AV.gives_eq,List.getElem?_map,Option.map_eq_some_iff] at hu
  obtain⟨u0,hu0,rfl⟩:=hu
  exact ih i u0 v hu0 hv (AV.noPtrs_get (by simpa only[AV.noPtr] using hn) hu0)
mutual
def AV.data:AV→Bool
 | .d _=>true
 | .ptr _ _=>false
 | .own _ _ _ _ _=>false
 | .agg cs=>AV.datas cs
 | .tup cs=>AV.datas cs
 | .sem _=>true
 | .cl _ fs cs=>AV.datas fs&&AV.datas cs
 | .pk _ _ _ _=>false
def AV.datas:List AV→Bool
 |[]=>true
 |c::r=>c.data&&AV.datas r
end
theorem AV.datas_get:∀{l:List AV} {i:Nat} {u:AV},AV.datas l=true→l[i]?=some u→u.data=true
 |[],_,_,_,h=>by simp at h
 |c::r,0,u,hc,h=>by simp[AV.datas] at hc h;subst h;exact hc.1
 |c::r,i+1,u,hc,h=>by
  simp only[AV.datas,At] at hc
  exact AV.datas_get hc.2 (by simpa using h)
theorem RA.data {B:Nat} {fp:Nat→Nat→Prop} {w:World} {bm bm':BM} {gt gt':Nat→Value} {u:AV} {v:Value} (hz:∀b o,bm.z b o→bm'.z b o) (h:RA B fp w bm gt u v) (hn:u.data=true):RA B fp w bm' gt' u v:=by
 induction h with
 |d h=>exact .d h
 |ptr=>cases hn
 |pk h=>cases hn
 |cl us vs h3 h4 h6 h7 ih6 ih7=>
  simp only[AV.data,At] at hn
  exact .cl us vs h3 h4 (fun i u v hu hv=>ih6 i u v hu hv (AV.datas_get hn.1 hu)) (fun i u v hu hv=>ih7 i u v hu hv (AV.datas_get hn.2 hu))
 |own h=>cases hn
 |sem h1 h=>exact .sem h1 fun z' w' k1 k2 k3=>h z' w' (fun b o hb=>k1 b o (hz b o hb)) (fun b o hb=>k2 b o (hz b o hb)) k3
 |agg vs h4 h7 ih=>exact .agg vs h4 fun i u v hu hv=>ih i u v hu hv (AV.datas_get (by simpa only[AV.data] using hn) hu)
 |tup vs h4 h7 ih=>exact .tup vs h4 fun i u v hu hv=>ih i u v hu hv (AV.datas_get (by simpa only[AV.data] using hn) hu)
def AV.tok:AV→Option (Nat×Nat×TypeId)
 | .own _ n sz e _=>some (n,sz,e)
 | .tup (.own _ n sz e _::_)=>some (n,sz,e)
 |_=>none
def AV.ren (t:Nat):AV→AV
 | .own _ n sz e cs=> .own t n sz e cs
 | .tup (.own _ n sz e cs::r)=> .tup (.own t n sz e cs::r)
 |u=>u
def AV.okRes:AV→Bool
 | .own 0 _ _ _ _=>true
 | .tup (.own 0 _ _ _ _::r)=>AV.datas r
 |u=>u.data
theorem Sn (t:Nat):∀r:AV,r.okRes=true→(r.data=true∧r.tok=none∧r.ren t=r)∨(∃n sz e cs,r= .own 0 n sz e cs)∨(∃n sz e cs rs,r= .tup (.own 0 n sz e cs::rs)∧AV.datas rs=true)
 | .d _,_=> .inl ⟨rfl,rfl,rfl⟩
 | .ptr _ _,h=>by cases h
 | .own 0 n sz e cs,_=> .inr (.inl ⟨n,sz,e,cs,rfl⟩)
 | .own (k+1) n sz e cs,h=>by cases h
 | .agg _,h=> .inl ⟨h,rfl,rfl⟩
 | .tup [],h=> .inl ⟨h,rfl,rfl⟩
 | .tup (.d _::_),h=> .inl ⟨h,rfl,rfl⟩
 | .tup (.ptr _ _::_),h=>by cases h
 | .tup (.own (k+1) _ _ _ _::_),h=>by cases h
 | .tup (.agg _::_),h=> .inl ⟨h,rfl,rfl⟩
 | .tup (.tup _::_),h=> .inl ⟨h,rfl,rfl⟩
 | .tup (.sem _::_),h=> .inl ⟨h,rfl,rfl⟩
 | .sem _,_=> .inl ⟨rfl,rfl,rfl⟩
 | .cl _ _ _,h=> .inl ⟨h,rfl,rfl⟩
 | .pk _ _ _ _,h=>by cases h
 | .tup (.cl _ _ _::_),h=> .inl ⟨h,rfl,rfl⟩
 | .tup (.pk _ _ _ _::_),h=>by cases h
 | .tup (.own 0 n sz e cs::rs),h=> .inr (.inr ⟨n,sz,e,cs,rs,rfl,h⟩)
def Kt (W:World) (fp0 z0:Nat→Nat→Prop) (w':World) (r:AV) (v:Value):Prop:=
 r.okRes=true∧∃fp gt z,(∀b o,fp b o→(fp0 b o∨W.heap.size≤b)∧b<w'.heap.size)∧RA W.heap.size fp w' ⟨fun _=>0,z⟩ gt r v∧(∀n sz e,r.tok=some (n,sz,e)→TokOk W.heap.size fp w' (gt 0) n sz e∧∀g,(gt 0).ownBlock=some g→∀o,¬z g o)∧
  (∀b o,z0 b o→z b o)∧(∀b o,z b o→fp b o)∧∀b o,z b o→z0 b o∨W.heap.size≤b
def RAs (B:Nat) (fp:Nat→Nat→Prop) (w:World) (bm:BM) (gt:Nat→Value):List AV→List Value→Prop
 |[],[]=>True
 |u::us,v::vs=>RA B fp w bm gt u v∧RAs B fp w bm gt us vs
 |_,_=>False
def Ab (P:Program) (f:FuncId) (args:List AV) (Φ:AV→Prop):Prop:=
 (∀xs0 w,(callFunc f xs0).run P w= .ok (.enter f xs0) w)∧
 ∀(w:World) (fp0 z0:Nat→Nat→Prop) (vs:List Value),Gd w→(∀b o,fp0 b o→b<w.heap.size)→(∀b o,z0 b o→fp0 b o)→RAs w.heap.size fp0 w ⟨fun _=>0,z0⟩ (fun _=>undef) args vs→
  Calls P f vs.toArray w fun e w'=>∃r v,e= .returned v∧Φ r∧Below w.heap.size w w'∧Kt w fp0 z0 w' r v
theorem Ab.mono {P:Program} {f:FuncId} {args:List AV} {Φ Ψ:AV→Prop} (h:Ab P f args Φ) (hm:∀r,Φ r→Ψ r):Ab P f args Ψ:=
 ⟨h.1,fun w fp0 z0 vs h0 h1 h2 h3=>(h.2 w fp0 z0 vs h0 h1 h2 h3).mono fun _ _ ⟨r,v,k1,k2,k3⟩=>⟨r,v,k1,hm r k2,k3⟩⟩
theorem GG.widen {C:Cx} {bm:BM} {gt:Nat→Value} {fp nw z:Nat→Nat→Prop} {σ:AS} {a:Act} {w:World} (h:GG C bm gt fp σ a w) (h1:∀b o,nw b o→C.W.heap.size≤b∧b<w.heap.size) (h2:∀k cs,lk k σ.bx=some cs→∀o,¬nw (bm k) o)
 (h3:∀k n sz e,lk k σ.tk=some (n,sz,e)→∀g,(gt k).ownBlock=some g→∀o,n*sz≤o→¬nw g o)
 (hz1:∀b o,bm.z b o→z b o) (hz2:∀b o,z b o→fp b o∨nw b o) (hz3:∀k x,lk k σ.tk=some x→∀g,(gt k).ownBlock=some g→∀o,¬z g o) (hz4:∀b o,z b o→bm.z b o∨C.W.heap.size≤b):GG C ⟨bm.m,z⟩ gt (fun b o=>fp b o∨nw b o) σ a w:=by
 have keep:∀{u v},RA C.W.heap.size fp w bm gt u v→RA C.W.heap.size (fun b o=>fp b o∨nw b o) w ⟨bm.m,z⟩ gt u v:=fun hr=>(hr.keep h.zf (NC.refl w) (Nat.le_refl _) (fun _ _ x=> .inl x) (fun _ _ _=>rfl)).zmono hz1
 refine{sz:=h.sz,nN:=h.nN,gd:=h.gd,za:=fun b o hb=>hz1 b o (h.za b o hb),zb:=fun b o hb=>(hz4 b o hb).elim (h.zb b o) .inr,zf:=hz2,ztk:=hz3,df:=h.df,tm:=fun t u hu=> ?_,bx:=fun k cs hk=> ?_,bxi:=h.bxi,tk:=fun k n sz e hk=> ?_,tki:=h.tki,tkb:=h.tkb,fpb:=fun b o hf=> ?_,fp0:=fun b o hf=> .inl (h.fp0 b o hf),fpB:=h.fpB,bel:=h.bel}
 ·obtain⟨v,k1,k2⟩:=h.tm t u hu
  exact⟨v,k1,keep k2⟩
 ·have hx:=h.bx k cs hk
  obtain⟨cur,e,k1,k2,k3⟩:=hx.obj
  exact⟨hx.own,fun o hf=>hf.elim (hx.un o) (h2 k cs hk o),cur,e,k1,k2,fun i u v hu hv=>keep (k3 i u v hu hv)⟩
 ·have hx:=h.tk k n sz e hk
  exact⟨hx.own,fun g hg o ho hf=>hf.elim (hx.tail g hg o ho) (h3 k n sz e hk g hg o ho)⟩
 ·rcases hf with hf|hf
  ·exact h.fpb b o hf
  ·exact⟨.inr (h1 b o hf).1,(h1 b o hf).2⟩
def AS.res (σ:AS) (t κ:Nat) (r:AV):AS:=⟨(t,r.ren κ)::σ.tm,σ.bx,match r.tok with|some x=>(κ,x)::σ.tk|none=>σ.tk⟩
theorem GG.back {C:Cx} {bm:BM} {gt:Nat→Value} {fp:Nat→Nat→Prop} {σ:AS} {a:Act} {w w':World} (h:GG C bm gt fp σ a w) {t κ:Nat} (ht:t<C.N) (hc:σ.clean κ=true) {r:AV} {v:Value} (hb:Below w.heap.size w w') (hr:Kt w fp bm.z w' r v):G C (σ.res t κ r) (a.put (some t) v) w':=by
 obtain⟨hok,fpc,gtc,zc,hfc,hra,htok',hzA,hzB,hzC⟩:=hr
 have htok:∀n sz e,r.tok=some (n,sz,e)→TokOk w.heap.size fpc w' (gtc 0) n sz e:=fun n sz e ht=>(htok' n sz e ht).1
 have hz2:∀b o,zc b o→fp b o∨(fpc b o∧w.heap.size≤b):=fun b o hz=>(hzC b o hz).elim (fun x=> .inl (h.zf b o x)) (fun x=> .inr ⟨hzB b o hz,x⟩)
 have hz4:∀b o,zc b o→bm.z b o∨C.W.heap.size≤b:=fun b o hz=>(hzC b o hz).imp id (fun x=>Nat.le_trans h.bel.size x)
 have hz3:∀k x,lk k σ.tk=some x→∀g,(gt k).ownBlock=some g→∀o,¬zc g o:=fun k x hk g hg o hz=>by
  rcases hzC g o hz with hz'|hz'
  ·exact h.ztk k x hk g hg o hz'
  ·obtain⟨xs,hxs⟩:=(h.tk k x.1 x.2.1 x.2.2 hk).own
   have:=(hxs.lt g hg).2;omega
 have hBw:C.W.heap.size≤w.heap.size:=h.bel.size
 have plain:r.data=true→r.tok=none→r.ren κ=r→G C (σ.res t κ r) (a.put (some t) v) w':=by
  intro hd hnt hren
  have h1:=(h.grow hb).widen (nw:=fun b o=>fpc b o∧w.heap.size≤b) (z:=zc) (fun b o hn=>⟨Nat.le_trans hBw hn.2,(hfc b o hn.1).2⟩) (fun k cs hk o hn=>by have:=(h.bx k cs hk).lt;omega) (fun k n sz e hk g hg o _ hn=>by
   obtain⟨xs,hxs⟩:=(h.tk k n sz e hk).own
   have:=(hxs.lt g hg).2;omega) hzA hz2 hz3 hz4
  have h2:RA C.W.heap.size (fun b o=>fp b o∨(fpc b o∧w.heap.size≤b)) w' ⟨bm.m,zc⟩ gt r v:=by
   have q:RA C.W.heap.size (fun b o=>fp b o∨(fpc b o∧w.heap.size≤b)) w' ⟨fun _=>0,zc⟩ gtc r v:=hra.keep hzB (NC.refl _) hBw (fun b o hf=>((hfc b o hf).1.imp id (fun x=>⟨hf,x⟩))) (fun _ _ _=>rfl)
   exact q.data (bm:=⟨fun _=>0,zc⟩) (bm':=⟨bm.m,zc⟩) (fun _ _ x=>x) hd
  have h3:=h1.put (t:=t) ht h2
  unfold AS.res
  rw[hren,hnt]
  exact⟨_,_,_,h3⟩
 have own:∀n sz e,r.tok=some (n,sz,e)→(∀(bm':BM) gt' fp',(∀b o,zc b o→bm'.z b o)→(∀b o,fpc b o→fp' b o)→gt' κ=gtc 0→RA C.W.heap.size fp' w' bm' gt' (r.ren κ) v)→G C (σ.res t κ r) (a.put (some t) v) w':=by
  intro n sz e htk hren
  have hT:=htok n sz e htk
  obtain⟨xs,hxs⟩:=hT.own
  have hge:∀g,(gtc 0).ownBlock=some g→w.heap.size≤g∧g<w'.heap.size:=fun g hg=>hxs.lt g hg
  have hA:=h.adopt hc sz e
  have hxs':w'.ownsRow C.W.heap.size e sz (gtc 0) n xs:=by
   refine⟨hxs.1,hxs.2.imp id ?_⟩
   rintro⟨g,cap,cur,e1,e2,e3⟩
   exact⟨g,cap,cur,e1,Nat.le_trans hBw e2,e3⟩
  have h1:=hA.retok (w':=w') (k:=κ) (n':=n) (v':=gtc 0) (Bs _ _ _) hb.size (h.bel.trans (hb.mono hBw)) (fun j hj _=>hb.block j hj) (fun g o hg _=>by rw[Cb] at hg;cases hg) ⟨xs,hxs'⟩ (fun g hg=> .inr (hge g hg).1)
  simp only[AS.clean,At] at hc
  simp only[Np hc.1,Ks hc.2] at h1
  have hup:∀j,H6 (H6 gt κ (.slice none 0 0)) κ (gtc 0) j=H6 gt κ (gtc 0) j:=fun j=>by unfold H6;split<;>rfl
  have hz2':∀b o,zc b o→(fp b o∨((gtc 0).ownBlock=some b∧o<n*sz))∨(fpc b o∧w.heap.size≤b):=fun b o hz=>(hz2 b o hz).imp .inl id
  have h2:=h1.widen (nw:=fun b o=>fpc b o∧w.heap.size≤b) (z:=zc) (fun b o hn=>⟨Nat.le_trans hBw hn.2,(hfc b o hn.1).2⟩) (fun k cs hk o hn=>by have:=(h.bx k cs hk).lt;omega) (fun k n' sz' e' hk g hg o ho hn=>by
   by_cases ek:κ=k
   ·subst ek
    rw[hup,Cb] at hg
    simp only[Bs,Option.some.injEq,Prod.mk.injEq] at hk
    obtain⟨rfl,rfl,rfl⟩:=hk
    exact hT.tail g hg o ho hn.1
   ·rw[hup,Et _ _ _ (fun e=>ek e.symm)] at hg
    have hk':lk k σ.tk=some (n',sz',e'):=by simpa only[Cf _ _ ek] using hk
    obtain⟨ys,hys⟩:=(h.tk k n' sz' e' hk').own
    have:=(hys.lt g hg).2;omega) hzA hz2' (fun k x hk g hg o hz=>by
   by_cases ek:κ=k
   ·subst ek
    rw[hup,Cb] at hg
    exact(htok' n sz e htk).2 g hg o hz
   ·rw[hup,Et _ _ _ (fun e=>ek e.symm)] at hg
    exact hz3 k x (by simpa only[Cf _ _ ek] using hk) g hg o hz) hz4
  have h3:=h2.put (t:=t) (u:=r.ren κ) (v:=v) ht (hren _ _ _ (fun _ _ x=>x) (fun b o hf=>by
   rcases(hfc b o hf).1 with hf'|hf'
   ·exact .inl (.inl hf')
   ·exact .inr ⟨hf,hf'⟩) (by rw[hup,Cb]))
  unfold AS.res
  rw[htk]
  obtain⟨bm',gt2,fp2,hG2⟩:G C ⟨(t,r.ren κ)::σ.tm,σ.bx,(κ,n,sz,e)::(κ,0,sz,e)::σ.tk⟩ (a.put (some t) v) w':=⟨_,_,_,h3⟩
  refine⟨bm',gt2,fp2,{hG2 with tk:=fun j n' s' e' hj=> ?_,tki:=fun j j' x x' hj hj'=> ?_,tkb:=fun j j' x c hj=> ?_,ztk:=fun j x hj=> ?_}⟩
  all_goals
   have drop:∀j (x:Nat×Nat×TypeId),lk j ((κ,n,sz,e)::σ.tk)=some x→lk j ((κ,n,sz,e)::(κ,0,sz,e)::σ.tk)=some x:=fun j x hj=>by
    by_cases ej:κ=j
    ·subst ej;rw[Bs] at hj⊢;exact hj
    ·rw[Cf _ _ ej] at hj⊢;rw[Cf _ _ ej];exact hj
  ·exact hG2.ztk j x (drop j x hj)
  ·exact hG2.tk j n' s' e' (drop j _ hj)
  ·exact hG2.tki j j' x x' (drop j x hj) (drop j' x' hj')
  ·exact hG2.tkb j j' x c (drop j x hj)
 have ownRA:∀{n sz:Nat} {e:TypeId} {cs:List D} {x:Value},RA w.heap.size fpc w' ⟨fun _=>0,zc⟩ gtc (.own 0 n sz e cs) x→∀(bm':BM) (gt':Nat→Value) (fp':Nat→Nat→Prop),(∀b o,zc b o→bm'.z b o)→(∀b o,fpc b o→fp' b o)→gt' κ=gtc 0→RA C.W.heap.size fp' w' bm' gt' (.own κ n sz e cs) x:=by
  intro n sz e cs x hx bm' gt' fp' _ hf hg
  generalize hq:AV.own 0 n sz e cs=q at hx
  cases hx with
  |own hx=>
   cases hq
   rw[←hg] at hx⊢
   exact .own (hx.keep hBw hf (fun _ _ _=>rfl))
  |d=>cases hq
  |ptr=>cases hq
  |agg=>cases hq
  |tup=>cases hq
  |sem=>cases hq
  |cl=>cases hq
  |pk=>cases hq
 rcases Sn κ r hok with⟨h1,h2,h3⟩|⟨n,sz,e,cs,rfl⟩|⟨n,sz,e,cs,rs,rfl,hrs⟩
 ·exact plain h1 h2 h3
 ·exact own n sz e rfl (ownRA hra)
 ·refine own n sz e rfl fun bm' gt' fp' hz hf hg=> ?_
  cases hra with
  |tup vs h4 h7=>
   refine .tup vs (by simpa[AV.ren] using h4) fun i x y hx hy=> ?_
   cases i with
   |zero=>
    simp at hx
    subst hx
    exact ownRA (h7 0 _ y rfl hy) bm' gt' fp' hz hf hg
   |succ i=>
    have hx':(AV.own 0 n sz e cs::rs)[i+1]?=some x:=by simpa[AV.ren] using hx
    have hd:x.data=true:=AV.datas_get (l:=rs) hrs (by simpa using hx')
    exact((h7 (i+1) x y hx' hy).keep hzB (NC.refl _) hBw hf (fun _ _ _=>rfl)).data (bm:=⟨fun _=>0,zc⟩) hz hd
def evL (σ:AS):List Operand→Option (List AV)
 |[]=>some []
 |x::r=>match σ.eval x,evL σ r with
  |some u,some us=>some (u::us)
  |_,_=>none
theorem GG.evL {C:Cx} {bm:BM} {gt:Nat→Value} {fp:Nat→Nat→Prop} {σ:AS} {a:Act} {w:World} (h:GG C bm gt fp σ a w):∀{l:List Operand} {us:List AV},evL σ l=some us→AV.noPtrs us=true→RAs w.heap.size fp w ⟨fun _=>0,bm.z⟩ (fun _=>undef) (AV.gives us) (l.map a.eval)
 |[],us,hl,_=>by cases hl;trivial
 |x::r,us,hl,hn=>by
  unfold Proofs.YtokmjjkbginodaaGreatDoor.evL at hl
  split at hl
  ·rename_i u us' h1 h2
   cases hl
   simp only[AV.noPtrs,At] at hn
   exact⟨(h.eval h1).give (bm:=bm) (bm':=⟨fun _=>0,bm.z⟩) (fun _ _ x=>x) hn.1,GG.evL h h2 hn.2⟩
  ·cases hl
def Ic (P:Program) (C:Cx) (o:Oper) (σ:AS) (S:AS→Prop):Prop:=∀a w,G C σ a w→∀K Q,(∀σ' a' w',S σ'→G C σ' a' w'→K a' w')→o.wp P a w K Q
theorem jK {P:Program} {C:Cx} {ops:Array Oper} {Φ:Exit→AS→Prop} {o:Oper} {r:List Oper} {σ:AS} {S:AS→Prop} (hg:o.guard=none) (h:Ic P C o σ S) (k:∀σ',S σ'→J7 P C ops Φ r σ'):J7 P C ops Φ (o::r) σ:=
 fun a w hG=>wpList_plain hg fun K hK=>h a w hG K _ fun σ' a' w' hS h'=>hK _ _ (k σ' hS a' w' h')
theorem So {P:Program} {C:Cx} {ops:Array Oper} {Φ:Exit→AS→Prop} {o:Oper} {r:List Oper} {σ:AS} {S:AS→Prop} {j:Nat} {b:Bool} {oj:Oper} {t:Nat} (hg:o.guard=some (j,b)) (hj:ops[j]?=some oj) (hd:oj.dst=some t) (hb:lk t σ.tm=some (.d (.v (.bool b)))) (hN:t<1000000)
 (h:Ic P C o σ S) (k:∀σ',S σ'→J7 P C ops Φ r σ'):J7 P C ops Φ (o::r) σ:=by
 intro a w hG
 have hy:=Hm hG hj hd hb hN
 refine wpList_step fun K hK=> ?_
 rw[if_pos (by simp[Region.wanted,hg,hy])]
 exact h a w hG K _ fun σ' a' w' hS h'=>hK _ _ (k σ' hS a' w' h')
section
variable {P:Program} {C:Cx} {o:Oper} {σ:AS} {t:Nat}
theorem O0 {bm:BM} {gt:Nat→Value} {fp:Nat→Nat→Prop} {a:Act} {w:World} (hg:GG C bm gt fp σ a w) (hd:o.dst=some t) (ht:t<C.N) {κ:Nat} (hc:σ.clean κ=true) {f:FuncId} {vs:List Value} {Φ:AV→Prop}
 (h:Calls P f vs.toArray w fun e w'=>∃r v,e= .returned v∧Φ r∧Below w.heap.size w w'∧Kt w fp bm.z w' r v) {K:Act→World→Prop} {Q:Exit→Act→World→Prop} (hK:∀σ' a' w',(∃r,Φ r∧σ'=σ.res t κ r)→G C σ' a' w'→K a' w'):
 o.upon P a K Q (.ok (.enter f vs.toArray) w):=by
 rw[Oper.upon_enter]
 refine h.mono ?_
 rintro e w' ⟨r,v,rfl,hP,hb,hr⟩
 simp only[]
 rw[hd]
 exact hK _ _ _ ⟨r,hP,rfl⟩ (hg.back ht hc hb hr)
theorem Ya {f:FuncId} {args:Array Operand} {ats:Array TypeId} {us fs:List AV} {Φ:AV→Prop} (ho:o.op= .call {callee:= .value (.func f),args:=args,argTypes:=ats}) (hd:o.dst=some t) (ht:t<C.N) {κ:Nat} (hc:σ.clean κ=true)
 (hu:evL σ args.toList=some us) (hn:AV.noPtrs us=true) (hgv:AV.gives us=fs) (hcall:Ab P f fs Φ):Ic P C o σ (fun σ'=>∃r,Φ r∧σ'=σ.res t κ r):=by
 rintro a w ⟨bm,gt,fp,hg⟩ K Q hK
 subst hgv
 have hA:=hcall.2 w fp bm.z (args.toList.map a.eval) hg.gdw (fun b o hf=>(hg.fpb b o hf).2) hg.zf (hg.evL hu hn)
 have hrun:(execOp a.eval o).run P w= .ok (.enter f (args.toList.map a.eval).toArray) w:=by
  simp only[execOp,ho,resolve,Deferred.ofValue,Act.eval,invoke,Sem.run_bind,Sem.run_pure,Result.andThen_ok,hcall.1]
  obtain⟨l⟩:=args
  simp
 unfold Oper.wp
 rw[hrun]
 exact O0 hg hd ht hc hA hK
theorem jL {f:FuncId} {s:Nat} {caps:List D} {args:Array Operand} {ats:Array TypeId} {us fs:List AV} {Φ:AV→Prop} (ho:o.op= .call {callee:= .value (.tmp s),args:=args,argTypes:=ats}) (hd:o.dst=some t) (ht:t<C.N) {κ:Nat} (hc:σ.clean κ=true)
 (hf:σ.eval (.tmp s)=some (.d (.fn f caps))) (hu:evL σ args.toList=some us) (hn:AV.noPtrs us=true) (hgv:AV.gives us++AV.gives (caps.map AV.d)=fs) (hcall:Ab P f fs Φ):Ic P C o σ (fun σ'=>∃r,Φ r∧σ'=σ.res t κ r):=by
 rintro a w ⟨bm,gt,fp,hg⟩ K Q hK
 subst hgv
 have hfv:=hg.eval (x:= .tmp s) hf
 generalize hv:a.eval (.tmp s)=v at hfv
 cases hfv with
 |d hfv=>
  cases hfv with
  |fn cs h4 h7=>
   have app:∀{us vs us' vs'},RAs w.heap.size fp w ⟨fun _=>0,bm.z⟩ (fun _=>undef) us vs→RAs w.heap.size fp w ⟨fun _=>0,bm.z⟩ (fun _=>undef) us' vs'→RAs w.heap.size fp w ⟨fun _=>0,bm.z⟩ (fun _=>undef) (us++us') (vs++vs'):=by
    intro us
    induction us with
    |nil=>intro vs us' vs' h h';cases vs with|nil=>exact h'|cons=>exact h.elim
    |cons u us ih=>intro vs us' vs' h h';cases vs with|nil=>exact h.elim|cons v vs=>exact⟨h.1,ih h.2 h'⟩
   have cap:∀(l:List D) (ms:List Value),ms.length=l.length→(∀(i:Nat) d u,l[i]?=some d→ms[i]?=some u→Rd C.W.heap.size fp w d u)→RAs w.heap.size fp w ⟨fun _=>0,bm.z⟩ (fun _=>undef) (AV.gives (l.map AV.d)) ms:=by
    intro l
    induction l with
    |nil=>intro ms h _;rw[List.eq_nil_of_length_eq_zero h];trivial
    |cons x l ih=>
     intro ms h hr
     cases ms with
     |nil=>simp at h
     |cons m ms=>exact⟨.d (hr 0 x m rfl rfl).un,ih ms (by simpa using h) fun i d u hd hu=>hr (i+1) d u (by simpa using hd) (by simpa using hu)⟩
   have hA:=hcall.2 w fp bm.z (args.toList.map a.eval++cs) hg.gdw (fun b o hf=>(hg.fpb b o hf).2) hg.zf (app (hg.evL hu hn) (cap _ _ h4 h7))
   have hrun:(execOp a.eval o).run P w= .ok (.enter f (args.toList.map a.eval++cs).toArray) w:=by
    simp only[execOp,ho,resolve,hv,Deferred.ofValue,invoke,Sem.run_bind,Sem.run_pure,Result.andThen_ok,hcall.1]
    obtain⟨l⟩:=args
    simp
   unfold Oper.wp
   rw[hrun]
   exact O0 hg hd ht hc hA hK
end
def C8 (P:Program) (C:Cx) (c:Code) (Φ:Exit→AS→Prop) (σ:AS):Prop:=∀a w,G C σ a w→c.wp P (Um C Φ) a w
def nx (k:AS→Prop) (Φ:Exit→AS→Prop):Exit→AS→Prop
 | .normal,σ=>k σ
 |e,σ=>Φ e σ
def inB (id:Nat) (Φ:Exit→AS→Prop):Exit→AS→Prop
 | .exit id',σ=>bif Nat.beq id' id then Φ .normal σ else Φ (.exit id') σ
 |e,σ=>Φ e σ
def noG (Φ:Exit→AS→Prop):Exit→AS→Prop
 | .goto _,_=>False
 |e,σ=>Φ e σ
theorem dD {p:Nat→Prop} (h:∃n,p n):∃n,p n∧∀m,p m→n≤m:=by
 obtain⟨n,hn⟩:=h
 induction n using Nat.strongRecOn with
 |_ n ih=>
  by_cases hx:∃m,m<n∧p m
  ·obtain⟨m,h1,h2⟩:=hx
   exact ih m h1 h2
  ·exact⟨n,hn,fun m hm=>by
    rcases Nat.lt_or_ge m n with h|h
    ·exact absurd ⟨m,h,hm⟩ hx
    ·exact h⟩
section
variable {P:Program} {C:Cx} {Φ:Exit→AS→Prop} {σ:AS}
theorem rZ {x y:Code} (h:C8 P C x (nx (C8 P C y Φ) Φ) σ):C8 P C (.seq x y) Φ σ:=fun a w hG=>
 wp_seq (wp_mono (h a w hG) fun e a w ⟨σ',h1,h2⟩=>by
  cases e<;>first|exact h1 a w h2|exact⟨σ',h1,h2⟩)
theorem Uq {c:Operand} {x y:Code} {b:Bool} (hc:σ.eval c=some (.d (.v (.bool b)))) (h1:b=true→C8 P C x Φ σ) (h2:b=false→C8 P C y Φ σ):C8 P C (.cond c x y) Φ σ:=by
 rintro a w ⟨bm,gt,fp,hg⟩
 exact wp_cond_split (hg.eval hc).val (fun h=>h1 h a w ⟨bm,gt,fp,hg⟩) fun h=>h2 h a w ⟨bm,gt,fp,hg⟩
theorem Zz {id:Nat} {l:List Oper} (h:J7 P C l.toArray Φ l σ):C8 P C (.region id l.toArray false) Φ σ:=fun a w hG=>wp_region_lit (h a w hG)
theorem jM (h:Φ .normal σ):C8 P C .skip Φ σ:=fun _ _ hG=>wp_skip ⟨σ,h,hG⟩
theorem dE {l:Nat} (h:Φ .normal σ):C8 P C (.label l) Φ σ:=fun _ _ hG=>wp_label ⟨σ,h,hG⟩
theorem jN {id:Nat} (h:Φ (.exit id) σ):C8 P C (.exit id) Φ σ:=fun _ _ hG=>wp_exit ⟨σ,h,hG⟩
theorem sA (h:Φ .ret σ):C8 P C .ret Φ σ:=fun _ _ hG=>wp_ret ⟨σ,h,hG⟩
theorem dF {id:Nat} {c:Code} (h:C8 P C c (inB id Φ) σ):C8 P C (.block id c) Φ σ:=fun a w hG=>
 wp_block (wp_mono (h a w hG) fun e a w ⟨σ',h1,h2⟩=>by
  cases e with
  |exit id'=>
   simp only[inB] at h1
   simp only[Exit.inBlock]
   cases hb:Nat.beq id' id with
   |true=>
    rw[hb] at h1
    rw[if_pos (Nat.eq_of_beq_eq_true hb)]
    exact⟨σ',h1,h2⟩
   |false=>
    rw[hb] at h1
    rw[if_neg (fun e=>by subst e;rw[Nat.beq_refl] at hb;cases hb)]
    exact⟨σ',h1,h2⟩
  |_=>exact⟨σ',h1,h2⟩)
theorem dG {c:Code} (h:C8 P C c (noG Φ) σ):C8 P C (.scope c) Φ σ:=fun a w hG=>
 wp_scope_straight (wp_mono (h a w hG) fun e a w ⟨σ',h1,h2⟩=>by
  cases e<;>first|exact⟨σ',h1,h2⟩|exact h1)
theorem Fs {c:Code} {Ψ:Exit→AS→Prop} (h:C8 P C c Φ σ) (hm:∀e σ,Φ e σ→Ψ e σ):C8 P C c Ψ σ:=fun a w hG=>
 wp_mono (h a w hG) fun e _ _ ⟨σ',h1,h2⟩=>⟨σ',hm e σ' h1,h2⟩
theorem jO {c:Code} (I:Nat→AS→Prop) (n:Nat) (h0:I n σ) (round:∀n σ,I n σ→C8 P C c (nx (fun σ'=>∃m,m<n∧I m σ') Φ) σ):C8 P C (.loop c) Φ σ:=by
 classical
 intro a w hG
 let J:Act→World→Prop:=fun a w=>∃n σ,I n σ∧G C σ a w
 let μ:Act→World→Nat:=fun a w=>if h:J a w then Classical.choose (dD (p:=fun n=>∃σ,I n σ∧G C σ a w) h) else 0
 refine wp_loop J μ ⟨n,σ,h0,hG⟩ ?_
 intro a w hJ
 have hμ:μ a w=Classical.choose (dD (p:=fun n=>∃σ,I n σ∧G C σ a w) hJ):=dif_pos hJ
 obtain⟨⟨σ1,hI1,hG1⟩,_⟩:=Classical.choose_spec (dD (p:=fun n=>∃σ,I n σ∧G C σ a w) hJ)
 refine wp_mono (round _ σ1 hI1 a w hG1) fun e a' w' ⟨σ',h1,h2⟩=> ?_
 cases e with
 |normal=>
  obtain⟨m,hm,hI⟩:=h1
  have hJ':J a' w':=⟨m,σ',hI,h2⟩
  refine⟨hJ',?_⟩
  rw[hμ]
  have:μ a' w'=Classical.choose (dD (p:=fun n=>∃σ,I n σ∧G C σ a' w') hJ'):=dif_pos hJ'
  rw[this]
  exact Nat.lt_of_le_of_lt ((Classical.choose_spec (dD (p:=fun n=>∃σ,I n σ∧G C σ a' w') hJ')).2 m ⟨σ',hI,h2⟩) hm
 |_=>exact⟨σ',h1,h2⟩
end
def KJ (σ σ':AS):Prop:=
 (∀t u',lk t σ'.tm=some u'→∃u,lk t σ.tm=some u∧AV.le u u')∧(∀k cs',lk k σ'.bx=some cs'→∃cs,lk k σ.bx=some cs∧AV.les cs cs')∧∀k x,lk k σ'.tk=some x→lk k σ.tk=some x
theorem G.weak {C:Cx} {σ σ':AS} {a:Act} {w:World} (h:G C σ a w) (hw:KJ σ σ'):G C σ' a w:=by
 obtain⟨bm,gt,fp,hg⟩:=h
 refine⟨bm,gt,fp,{sz:=hg.sz,nN:=hg.nN,gd:=hg.gd,za:=hg.za,zb:=hg.zb,zf:=hg.zf,ztk:=fun k x hk=>hg.ztk k x (hw.2.2 k _ hk),df:=hg.df,tm:=fun t u' hu=> ?_,bx:=fun k cs' hk=> ?_,bxi:=fun k k' c c' hk hk' he=> ?_,tk:=fun k n sz e hk=>hg.tk k n sz e (hw.2.2 k _ hk),tki:=fun k k' x x' hk hk'=>hg.tki k k' x x' (hw.2.2 k _ hk) (hw.2.2 k' _ hk'),tkb:=fun k k' x c hk hk'=> ?_,fpb:=hg.fpb,fp0:=hg.fp0,fpB:=hg.fpB,bel:=hg.bel}⟩
 ·obtain⟨u,h1,h2⟩:=hw.1 t u' hu
  obtain⟨v,h3,h4⟩:=hg.tm t u h1
  exact⟨v,h3,RA.le hg.zf h2 h4⟩
 ·obtain⟨cs,h1,h2⟩:=hw.2.1 k cs' hk
  have hx:=hg.bx k cs h1
  obtain⟨cur,e,h3,h4,h5⟩:=hx.obj
  refine⟨hx.own,hx.un,cur,e,h3,by rw[←AV.les_len h2];exact h4,fun i u v hu hv=> ?_⟩
  have hlt:i<cs.length:=by rw[AV.les_len h2];exact(Aw.1 hu).1
  exact RA.le hg.zf (AV.les_get h2 i _ u (Am hlt) hu) (h5 i _ v (Am hlt) hv)
 ·obtain⟨cs,h1,_⟩:=hw.2.1 k c hk
  obtain⟨cs',h1',_⟩:=hw.2.1 k' c' hk'
  exact hg.bxi k k' cs cs' h1 h1' he
 ·obtain⟨cs,h1,_⟩:=hw.2.1 k' c hk'
  exact hg.tkb k k' x cs (hw.2.2 k _ hk) h1
def wkT (σ:AS):List (Nat×AV)→Prop
 |[]=>True
 |(t,u')::r=>(∃u,lk t σ.tm=some u∧AV.le u u')∧wkT σ r
def wkB (σ:AS):List (Nat×List AV)→Prop
 |[]=>True
 |(k,cs')::r=>(∃cs,lk k σ.bx=some cs∧AV.les cs cs')∧wkB σ r
def wkK (σ:AS):List (Nat×Nat×Nat×TypeId)→Prop
 |[]=>True
 |(k,x)::r=>lk k σ.tk=some x∧wkK σ r
theorem wI {σ:AS} {t:Nat} {u':AV}:∀{l:List (Nat×AV)},wkT σ l→lk t l=some u'→∃u,lk t σ.tm=some u∧AV.le u u'
 |[],_,h=>by cases h
 |(k,c)::r,hw,h=>by
  simp only[lk] at h
  cases hb:Nat.beq k t with
  |true=>rw[hb] at h;cases h;obtain rfl:=Nat.eq_of_beq_eq_true hb;exact hw.1
  |false=>rw[hb] at h;exact wI hw.2 h
theorem wJ {σ:AS} {t:Nat} {u':List AV}:∀{l:List (Nat×List AV)},wkB σ l→lk t l=some u'→∃u,lk t σ.bx=some u∧AV.les u u'
 |[],_,h=>by cases h
 |(k,c)::r,hw,h=>by
  simp only[lk] at h
  cases hb:Nat.beq k t with
  |true=>rw[hb] at h;cases h;obtain rfl:=Nat.eq_of_beq_eq_true hb;exact hw.1
  |false=>rw[hb] at h;exact wJ hw.2 h
theorem wK {σ:AS} {t:Nat} {u':Nat×Nat×TypeId}:∀{l:List (Nat×Nat×Nat×TypeId)},wkK σ l→lk t l=some u'→lk t σ.tk=some u'
 |[],_,h=>by cases h
 |(k,c)::r,hw,h=>by
  simp only[lk] at h
  cases hb:Nat.beq k t with
  |true=>rw[hb] at h;cases h;obtain rfl:=Nat.eq_of_beq_eq_true hb;exact hw.1
  |false=>rw[hb] at h;exact wK hw.2 h
theorem EK {σ σ':AS} (h1:wkT σ σ'.tm) (h2:wkB σ σ'.bx) (h3:wkK σ σ'.tk):KJ σ σ':=⟨fun _ _ h=>wI h1 h,fun _ _ h=>wJ h2 h,fun _ _ h=>wK h3 h⟩
def nJ (P:Program) (σ:AS):ResultVar→AV→Prop
 | .tmp t,u=>Nat.blt t 1000000=true∧lk t σ.tm=some u
 | .cell p ty,u=>Nat.blt p 1000000=true∧∃k off cs d z sz by',lk p σ.tm=some (.ptr k off)∧lk k σ.bx=some cs∧TyOk P ty d z sz by'∧((Jm d=false∧cs[off]?=some u)∨(Jm d=true∧∃us,(cs.drop off).take sz=us∧us.length=sz∧u= .agg us))
theorem GG.resAt {P:Program} {C:Cx} {bm:BM} {gt:Nat→Value} {fp:Nat→Nat→Prop} {σ:AS} {a:Act} {w:World} (hg:GG C bm gt fp σ a w) {r:ResultVar} {u:AV} (h:nJ P σ r u):∃v,F4 P w a.tmps r v∧RA C.W.heap.size fp w bm gt u v:=by
 cases r with
 |tmp t=>
  obtain⟨v,h1,h2⟩:=hg.tm t u h.2
  rw[Cx.val_lt (Xk h.1)] at h1
  exact⟨v,by simp only[F4,Array.getD_eq_getD_getElem?,h1,Option.getD_some],h2⟩
 |cell p ty=>
  obtain⟨h0,k,off,cs,d,z,sz,by',h1,h2,hT,h3⟩:=h
  obtain⟨v,h4,h5⟩:=hg.tm p _ h1
  rw[Cx.val_lt (Xk h0)] at h4
  cases h5 with
  |ptr=>
   obtain⟨cur,e,q1,q2,q3⟩:=(hg.bx k cs h2).obj
   rcases h3 with⟨hD,hu⟩|⟨hD,us,hu,hl,rfl⟩
   ·have hlt:off<cur.size:=Nat.lt_of_lt_of_le (Aw.1 hu).1 q2
    refine⟨cur[off],⟨⟨bm k,off,none⟩,by simp only[Array.getD_eq_getD_getElem?,h4,Option.getD_some],?_⟩,q3 off u _ hu (Array.getElem?_eq_getElem hlt)⟩
    have hc:w.cell? ⟨bm k,off,none⟩=some cur[off]:=by rw[cell_of_row w _ _ _ _ _ q1];exact Array.getElem?_eq_getElem hlt
    unfold loadVar
    rw[Sem.run_bind,hT.agg,hD]
    simp[Result.andThen,load,Sem.run,hc]
   ·obtain⟨vs,hvs⟩:∃vs,(cur.toList.drop off).take sz=vs:=⟨_,rfl⟩
    have hvl:vs.length=us.length:=by
     have hq:((cs.drop off).take sz).length=sz:=by rw[hu];exact hl
     rw[←hvs,hl,Al,Az,Array.length_toList]
     rw[Al,Az] at hq
     omega
    have hvs':vs.length=sz:=by rw[hvl,hl]
    refine⟨.agg vs.toArray,⟨⟨bm k,off,none⟩,by simp only[Array.getD_eq_getD_getElem?,h4,Option.getD_some],?_⟩,.agg vs hvl fun i x y hx hy=> ?_⟩
    ·subst hvs'
     exact Ho (P:=P) (ty:=ty) w (bm k) off vs hT hD fun j v hj=>by
      rw[cell_of_row w _ _ _ _ _ q1]
      rw[←hvs,List.getElem?_take] at hj
      split at hj
      ·rw[List.getElem?_drop] at hj;simpa using hj
      ·cases hj
    ·rw[←hu,List.getElem?_take] at hx
     rw[←hvs,List.getElem?_take] at hy
     split at hx
     ·rename_i hlt
      rw[if_pos hlt,List.getElem?_drop] at hy
      rw[List.getElem?_drop] at hx
      exact q3 _ x y hx (by simpa using hy)
     ·cases hx
def Lm (P:Program) (σ:AS):List ResultVar→List AV→Prop
 |[],[]=>True
 |r::rs,u::us=>nJ P σ r u∧Lm P σ rs us
 |_,_=>False
def single:List AV→AV
 |[u]=>u
 |us=> .tup us
inductive Fini (σ:AS):AV→AV→Prop
 |data {u r:AV} (h:r.data=true) (hl:AV.le u r):Fini σ u r
 |own {k n sz:Nat} {e:TypeId} {cs:List D} (h:lk k σ.tk=some (n,sz,e)):Fini σ (.own k n sz e cs) (.own 0 n sz e cs)
 |tup {k n sz:Nat} {e:TypeId} {cs:List D} {us rs:List AV} (h:lk k σ.tk=some (n,sz,e)) (hd:AV.datas rs=true) (hl:AV.les us rs):Fini σ (.tup (.own k n sz e cs::us)) (.tup (.own 0 n sz e cs::rs))
def EL (P:Program) (fn:Func) (Φ:AV→Prop) (σ:AS):Prop:=∃us,Lm P σ fn.results.toList us∧∃r,Fini σ (single us) r∧Φ r
def post (P:Program) (fn:Func) (Φ:AV→Prop):Exit→AS→Prop
 | .normal,σ=>EL P fn Φ σ
 | .ret,σ=>EL P fn Φ σ
 |_,_=>False
theorem Xl {P:Program} {fn:Func} {tmps:Array Value} {w:World} {r1 r2 r3:ResultVar} {v1 v2 v3:Value} (hf:fn.results=#[r1,r2,r3]) (h1:F4 P w tmps r1 v1) (h2:F4 P w tmps r2 v2) (h3:F4 P w tmps r3 v3):(results fn tmps).run P w= .ok (.tuple #[v1,v2,v3]) w:=by
 cases r1<;>cases r2<;>cases r3<;>simp only[F4] at h1 h2 h3<;>
  (try obtain⟨ad1,h1,k1⟩:=h1)<;>(try obtain⟨ad2,h2,k2⟩:=h2)<;>(try obtain⟨ad3,h3,k3⟩:=h3)<;>
  simp[results,asAddr,Sem.run_bind,Result.andThen, *,-Array.getD_eq_getD_getElem?]
theorem Z0 {P:Program} {fn:Func} {tmps:Array Value} {w:World} {r1 r2 r3 r4:ResultVar} {v1 v2 v3 v4:Value} (hf:fn.results=#[r1,r2,r3,r4]) (h1:F4 P w tmps r1 v1) (h2:F4 P w tmps r2 v2) (h3:F4 P w tmps r3 v3) (h4:F4 P w tmps r4 v4):(results fn tmps).run P w= .ok (.tuple #[v1,v2,v3,v4]) w:=by
 cases r1<;>cases r2<;>cases r3<;>cases r4<;>simp only[F4] at h1 h2 h3 h4<;>
  (try obtain⟨ad1,h1,k1⟩:=h1)<;>(try obtain⟨ad2,h2,k2⟩:=h2)<;>(try obtain⟨ad3,h3,k3⟩:=h3)<;>(try obtain⟨ad4,h4,k4⟩:=h4)<;>
  simp[results,asAddr,Sem.run_bind,Result.andThen, *,-Array.getD_eq_getD_getElem?]
theorem Mj {P:Program} {C:Cx} {bm:BM} {gt:Nat→Value} {fp:Nat→Nat→Prop} {σ:AS} {a:Act} {w:World} (hg:GG C bm gt fp σ a w) {fn:Func} {us:List AV} (h:Lm P σ fn.results.toList us) (hn:fn.results.size≤4):
 ∃v,(results fn a.tmps).run P w= .ok v w∧RA C.W.heap.size fp w bm gt (single us) v:=by
 have hfr:fn.results=fn.results.toList.toArray:=by simp
 have hlen:fn.results.toList.length≤4:=by simpa using hn
 generalize fn.results.toList=l at h hfr hlen
 have tup:∀{us:List AV} {vs:List Value},RAs C.W.heap.size fp w bm gt us vs→RA C.W.heap.size fp w bm gt (.tup us) (.tuple vs.toArray):=by
  intro us vs hr
  have hl:∀{us:List AV} {vs:List Value},RAs C.W.heap.size fp w bm gt us vs→vs.length=us.length∧∀(i:Nat) u v,us[i]?=some u→vs[i]?=some v→RA C.W.heap.size fp w bm gt u v:=by
   intro us
   induction us with
   |nil=>intro vs hr;cases vs with|nil=>exact⟨rfl,fun i u v hu=>by simp at hu⟩|cons=>exact hr.elim
   |cons u us ih=>
    intro vs hr
    cases vs with
    |nil=>exact hr.elim
    |cons v vs=>
     obtain⟨h1,h2⟩:=ih hr.2
     refine⟨by simp[h1],fun i x y hx hy=> ?_⟩
     cases i with
     |zero=>simp at hx hy;subst hx hy;exact hr.1
     |succ i=>exact h2 i x y (by simpa using hx) (by simpa using hy)
  exact .tup vs (hl hr).1 (hl hr).2
 match l,us,h with
 |[],[],_=>exact⟨_,results_none (by rw[hfr]) _ _ _,tup (vs:=[]) trivial⟩
 |[r1],[u1],h=>
  obtain⟨v1,k1,q1⟩:=hg.resAt h.1
  exact⟨v1,cR (by rw[hfr]) k1,q1⟩
 |[r1,r2],[u1,u2],h=>
  obtain⟨v1,k1,q1⟩:=hg.resAt h.1
  obtain⟨v2,k2,q2⟩:=hg.resAt h.2.1
  exact⟨_,Mb (by rw[hfr]) k1 k2,tup (vs:=[v1,v2]) ⟨q1,q2,trivial⟩⟩
 |[r1,r2,r3],[u1,u2,u3],h=>
  obtain⟨v1,k1,q1⟩:=hg.resAt h.1
  obtain⟨v2,k2,q2⟩:=hg.resAt h.2.1
  obtain⟨v3,k3,q3⟩:=hg.resAt h.2.2.1
  exact⟨_,Xl (by rw[hfr]) k1 k2 k3,tup (vs:=[v1,v2,v3]) ⟨q1,q2,q3,trivial⟩⟩
 |[r1,r2,r3,r4],[u1,u2,u3,u4],h=>
  obtain⟨v1,k1,q1⟩:=hg.resAt h.1
  obtain⟨v2,k2,q2⟩:=hg.resAt h.2.1
  obtain⟨v3,k3,q3⟩:=hg.resAt h.2.2.1
  obtain⟨v4,k4,q4⟩:=hg.resAt h.2.2.2.1
  exact⟨_,Z0 (by rw[hfr]) k1 k2 k3 k4,tup (vs:=[v1,v2,v3,v4]) ⟨q1,q2,q3,q4,trivial⟩⟩
 |[],_::_,h=>exact h.elim
 |_::_,[],h=>exact h.elim
 |[_],_::_::_,h=>exact h.2.elim
 |[_,_],[_],h=>exact h.2.elim
 |[_,_],_::_::_::_,h=>exact h.2.2.elim
 |[_,_,_],[_],h=>exact h.2.elim
 |[_,_,_],[_,_],h=>exact h.2.2.elim
 |[_,_,_],_::_::_::_::_,h=>exact h.2.2.2.elim
 |[_,_,_,_],[_],h=>exact h.2.elim
 |[_,_,_,_],[_,_],h=>exact h.2.2.elim
 |[_,_,_,_],[_,_,_],h=>exact h.2.2.2.elim
 |[_,_,_,_],_::_::_::_::_::_,h=>exact h.2.2.2.2.elim
 |_::_::_::_::_::_,_,_=>simp at hlen
def G3:Nat→List AV→List (Nat×AV)
 |_,[]=>[]
 |i,u::us=>(i,u)::G3 (i+1) us
theorem Rl {t:Nat} {u:AV}:∀(us:List AV) (i:Nat),lk t (G3 i us)=some u→i≤t∧us[t-i]?=some u
 |[],_,h=>by cases h
 |x::us,i,h=>by
  simp only[G3,lk] at h
  cases hb:Nat.beq i t with
  |true=>rw[hb] at h;cases h;obtain rfl:=Nat.eq_of_beq_eq_true hb;exact⟨Nat.le_refl _,by simp⟩
  |false=>
   rw[hb] at h
   obtain⟨h1,h2⟩:=Rl us (i+1) h
   refine⟨by omega,?_⟩
   have:t-i=(t-(i+1))+1:=by omega
   rw[this,List.getElem?_cons_succ];exact h2
theorem sB {P:Program} {f:FuncId} {fn:Func} {c:Code} {args:List AV} {Φ:AV→Prop} (hf:P.funcs[f]?=some fn) (he:∀xs0 w,(callFunc f xs0).run P w= .ok (.enter f xs0) w) (hb:fn.body=some c) (hn:fn.results.size≤4) (hN:args.length≤fn.ntmps) (hN6:fn.ntmps≤1000000)
 (h:∀W fp0 z0,C8 P ⟨W,fp0,fn.ntmps,fun _=>none,z0⟩ c (post P fn Φ) ⟨G3 0 args,[],[]⟩):Ab P f args Φ:=by
 refine⟨he,fun w fp0 z0 vs hgd hfp hz0 hr=> ?_⟩
 have hl:∀{us:List AV} {vs:List Value},RAs w.heap.size fp0 w ⟨fun _=>0,z0⟩ (fun _=>undef) us vs→vs.length=us.length∧∀(i:Nat) u,us[i]?=some u→∃v,vs[i]?=some v∧RA w.heap.size fp0 w ⟨fun _=>0,z0⟩ (fun _=>undef) u v:=by
  intro us
  induction us with
  |nil=>intro vs hr;cases vs with|nil=>exact⟨rfl,fun i u hu=>by simp at hu⟩|cons=>exact hr.elim
  |cons u us ih=>
   intro vs hr
   cases vs with
   |nil=>exact hr.elim
   |cons v vs=>
    obtain⟨h1,h2⟩:=ih hr.2
    refine⟨by simp[h1],fun i x hx=> ?_⟩
    cases i with
    |zero=>simp at hx;subst hx;exact⟨v,rfl,hr.1⟩
    |succ i=>
     obtain⟨y,h3,h4⟩:=h2 i x (by simpa using hx)
     exact⟨y,by simpa using h3,h4⟩
 obtain⟨hvl,hva⟩:=hl hr
 refine calls_of_wp hf hb ?_
 let C:Cx:=⟨w,fp0,fn.ntmps,fun _=>none,z0⟩
 have hG:G C ⟨G3 0 args,[],[]⟩ {tmps:=vs.toArray++Array.replicate (fn.ntmps-vs.toArray.size) undef,defers:=[]} w:=by
  refine⟨⟨fun _=>0,z0⟩,fun _=>undef,fp0,{sz:= ?_,nN:=hN6,gd:=hgd,za:=fun _ _ x=>x,zb:=fun _ _ x=> .inl x,zf:=hz0,ztk:=fun k x hk=>(by cases hk),df:=rfl,tm:=fun t u hu=> ?_,bx:=fun k cs hk=>(by cases hk),bxi:=fun k k' c c' hk=>(by cases hk),tk:=fun k n sz e hk=>(by cases hk),tki:=fun k k' x x' hk=>(by cases hk),tkb:=fun k k' x c hk=>(by cases hk),fpb:=fun b o hf=>⟨.inl hf,hfp b o hf⟩,fp0:=fun _ _ hf=>hf,fpB:=hfp,bel:=Below.refl _ _}⟩
  ·show _=fn.ntmps
   simp;omega
  ·obtain⟨_,h2⟩:=Rl args 0 hu
   obtain⟨v,h3,h4⟩:=hva t u (by simpa using h2)
   refine⟨v,?_,h4⟩
   have hlt:=(Aw.1 h3).1
   have hlt2:t<args.length:=by rw[←hvl];exact hlt
   rw[Cx.val_lt (by omega),Array.getElem?_append_left (by simpa using hlt)]
   simpa using h3
 refine wp_mono (h w fp0 z0 _ w hG) fun e a w' ⟨σ',hΦ,hG'⟩=> ?_
 obtain⟨bm,gt,fp,hg⟩:=hG'
 have fin:EL P fn Φ σ'→bodyPost P fn (fun e w'=>∃r v,e= .returned v∧Φ r∧Below w.heap.size w w'∧Kt w fp0 z0 w' r v) .ret a w':=by
  rintro⟨us,h1,r,h2,h3⟩
  obtain⟨v,hrun,hra⟩:=Mj hg h1 hn
  refine⟨hg.df,v,hrun,r,v,rfl,h3,hg.bel,?_⟩
  generalize single us=u at h2 hra
  have own:∀{k n sz:Nat} {e:TypeId},lk k σ'.tk=some (n,sz,e)→TokOk w.heap.size fp w' (gt k) n sz e:=fun hk=>hg.tk _ _ _ _ hk
  cases h2 with
  |data hd hl=>
   refine⟨?_,fp,gt,bm.z,hg.fpb,(RA.le hg.zf hl hra).data (bm:=bm) (bm':=⟨fun _=>0,bm.z⟩) (fun _ _ x=>x) hd,fun n sz e ht=> ?_,hg.za,hg.zf,hg.zb⟩
   ·match r,hd with
    | .d _,_=>rfl
    | .agg _,h=>exact h
    | .tup [],h=>exact h
    | .tup (.d _::_),h=>exact h
    | .tup (.agg _::_),h=>exact h
    | .tup (.tup _::_),h=>exact h
    | .tup (.sem _::_),h=>exact h
    | .tup (.cl _ _ _::_),h=>exact h
    | .sem _,_=>rfl
    | .cl _ _ _,h=>exact h
   ·match r,hd with
    | .d _,_=>cases ht
    | .agg _,h=>cases ht
    | .tup [],h=>cases ht
    | .tup (.d _::_),h=>cases ht
    | .tup (.agg _::_),h=>cases ht
    | .tup (.tup _::_),h=>cases ht
    | .tup (.sem _::_),h=>cases ht
    | .tup (.cl _ _ _::_),h=>cases ht
    | .sem _,_=>cases ht
    | .cl _ _ _,h=>cases ht
  |@own k n sz e cs hk=>
   refine⟨rfl,fp,fun _=>gt k,bm.z,hg.fpb,?_,fun n' sz' e' ht=>by cases ht;exact⟨own hk,hg.ztk k _ hk⟩,hg.za,hg.zf,hg.zb⟩
   cases hra with|own hra=>exact .own (gt:=fun _=>gt k) (k:=0) hra
  |@tup k n sz e cs us rs hk hd hls=>
   refine⟨hd,fp,fun _=>gt k,bm.z,hg.fpb,?_,fun n' sz' e' ht=>by cases ht;exact⟨own hk,hg.ztk k _ hk⟩,hg.za,hg.zf,hg.zb⟩
   cases hra with
   |tup vs' h4 h7=>
    refine .tup vs' (by simpa[AV.les_len hls] using h4) fun i x y hx hy=> ?_
    cases i with
    |zero=>
     simp at hx
     subst hx
     have h0:=h7 0 _ y rfl hy
     generalize hq:AV.own k n sz e cs=q at h0
     cases h0 with
     |own h0=>cases hq;exact .own (gt:=fun _=>gt k) (k:=0) h0
     |d=>cases hq
     |ptr=>cases hq
     |agg=>cases hq
     |tup=>cases hq
     |sem=>cases hq
     |cl=>cases hq
     |pk=>cases hq
    |succ i=>
     have hx':rs[i]?=some x:=by simpa using hx
     have hlt:i<us.length:=by rw[AV.les_len hls];exact(Aw.1 hx').1
     have h0:=h7 (i+1) us[i] y (by simp[hlt]) hy
     exact(RA.le hg.zf (AV.les_get hls i _ x (Am hlt) hx') h0).data (bm:=bm) (bm':=⟨fun _=>0,bm.z⟩) (fun _ _ x=>x) (AV.datas_get hd hx')
 cases e with
 |normal=>exact fin hΦ
 |ret=>exact fin hΦ
 |_=>exact hΦ.elim
theorem Mk {P:Program} {f:FuncId} {fn:Func} {c:Code} (hf:P.funcs[f]?=some fn) (hn:(fn.name== "runtime.NumGoroutine")=false) (hb:fn.body=some c) (args:Array Value) (w:World):(callFunc f args).run P w= .ok (.enter f args) w:=by
 simp only[callFunc,program,Sem.run_bind,Sem.run,Result.andThen_ok,hf,hn,hb]
 rfl
theorem G.learn {C:Cx} {σ:AS} {t:Nat} {c d:Bool} (hb:lk t σ.tm=some (.d (.v (.bool c)))) (hc:c=d) {a:Act} {w:World} (hG:G C σ a w):G C (σ.put t (.d (.v (.bool d)))) a w:=by
 subst hc
 refine hG.weak ⟨fun s u hs=>⟨u,?_,.refl u⟩,fun k cs hk=>⟨cs,hk,AV.les_refl cs⟩,fun k x hk=>hk⟩
 by_cases e:t=s
 ·subst e;rw[AS.put_tm,Bs] at hs;rw[hb];exact hs
 ·rw[AS.put_tm,Cf _ _ e] at hs;exact hs
theorem jP {P:Program} {C:Cx} {ops:Array Oper} {Φ:Exit→AS→Prop} {l:List Oper} {σ:AS} {c:Bool} {t:Nat} (hb:lk t σ.tm=some (.d (.v (.bool c)))) {d:Bool} (hc:c=d) (h1:J7 P C ops Φ l (σ.put t (.d (.v (.bool d))))):J7 P C ops Φ l σ:=
 fun a w hG=>h1 a w (hG.learn hb hc)
theorem Sp {P:Program} {C:Cx} {Φ:Exit→AS→Prop} {x:Code} {σ:AS} {c:Bool} {t:Nat} (hb:lk t σ.tm=some (.d (.v (.bool c)))) {d:Bool} (hc:c=d) (h1:C8 P C x Φ (σ.put t (.d (.v (.bool d))))):C8 P C x Φ σ:=
 fun a w hG=>h1 a w (hG.learn hb hc)
theorem P6 (off:Nat):∀(l:List Value) (k:Nat) (cells:Array Value),off+k+l.length≤cells.size→
 ((l.zipIdx k).foldl (fun cs p=>cs.setIfInBounds (off+p.2) p.1) cells).toList=Fr cells.toList (off+k) l
 |[],k,cells,_=>by simp[Fr]
 |c::r,k,cells,h=>by
  simp only[Ag] at h
  simp only[List.zipIdx_cons,List.foldl_cons]
  rw[P6 off r (k+1) _ (by simp;omega),Array.toList_setIfInBounds]
  have hlen:off+k+(r.length+1)≤cells.toList.length:=by rw[Array.length_toList];omega
  generalize cells.toList=l at hlen
  apply List.ext_getElem?
  intro i
  rw[Ll (by rw[List.length_set];omega),Ll (by rw[Ag];omega),List.getElem?_set,Ag]
  by_cases c1:i<off+k
  ·rw[if_pos (by omega),if_neg (by omega),if_pos c1]
  ·rw[if_neg c1]
   by_cases c2:i=off+k
   ·subst c2
    rw[if_pos (by omega),if_pos rfl,if_pos (by omega),if_pos (by omega),Nat.sub_self]
    rfl
   ·rw[if_neg (by omega:¬i<off+(k+1))]
    by_cases c3:i<off+k+(r.length+1)
    ·rw[if_pos (by omega),if_pos c3]
     have:i-(off+k)=(i-(off+(k+1)))+1:=by omega
     rw[this,List.getElem?_cons_succ]
    ·rw[if_neg (by omega),if_neg c3,if_neg (by omega)]
def Ml (place:Nat→Option (Nat×Nat)):List AV→List (Nat×AV)→Option (List AV)
 |cs,[]=>some cs
 |cs,(i,u)::r=>match place i with
  |none=>none
  |some (off,sz)=>match u.flat&&Nat.beq u.cells.length sz&&Nat.ble (off+sz) cs.length with
   |true=>Ml place (Fr cs off u.cells) r
   |false=>none
def evP (σ:AS):List (Nat×Operand)→Option (List (Nat×AV))
 |[]=>some []
 |(i,x)::r=>match σ.eval x,evP σ r with
  |some u,some us=>some ((i,u)::us)
  |_,_=>none
theorem Z1 {B:Nat} {fp:Nat→Nat→Prop} {w:World} {bm:BM} {gt:Nat→Value} {place:Nat→Option (Nat×Nat)}:∀(ps:List (Nat×AV)) (vs:List (Nat×Value)) (cs us:List AV) (cells:Array Value),Ml place cs ps=some us→
 vs.length=ps.length→(∀(j:Nat) p q,ps[j]?=some p→vs[j]?=some q→p.1=q.1∧RA B fp w bm gt p.2 q.2)→cells.size=cs.length→(∀(i:Nat) x y,cs[i]?=some x→cells[i]?=some y→RA B fp w bm gt x y)→
 ∃cells',Instr.fill place cells vs=some cells'∧cells'.size=us.length∧∀(i:Nat) x y,us[i]?=some x→cells'[i]?=some y→RA B fp w bm gt x y
 |[],vs,cs,us,cells,h,hl,_,hc,hr=>by
  cases vs with
  |nil=>cases h;exact⟨cells,rfl,hc,hr⟩
  |cons=>simp at hl
 |(i,u)::r,vs,cs,us,cells,h,hl,hp,hc,hr=>by
  cases vs with
  |nil=>simp at hl
  |cons q vs=>
   obtain⟨i',v⟩:=q
   obtain⟨e1,e2⟩:=hp 0 (i,u) (i',v) rfl rfl
   simp only at e1 e2
   subst e1
   unfold Ml at h
   cases hpl:place i with
   |none=>rw[hpl] at h;cases h
   |some os=>
    obtain⟨off,sz⟩:=os
    rw[hpl] at h
    simp only at h
    cases hcond:(u.flat&&Nat.beq u.cells.length sz&&Nat.ble (off+sz) cs.length) with
    |false=>rw[hcond] at h;cases h
    |true=>
     rw[hcond] at h
     simp only[At] at hcond
     obtain⟨⟨c1,c2⟩,c3⟩:=hcond
     have c2:=Nat.eq_of_beq_eq_true c2
     have c3:=Nat.le_of_ble_eq_true c3
     obtain⟨k1,k2,k3⟩:=e2.cells c1
     have hvs:v.cells.size=sz:=by rw[←Array.length_toList,k1,c2]
     have hsp:=P6 off v.cells.toList 0 cells (by rw[Nat.add_zero,k1,c2,hc];exact c3)
     rw[Nat.add_zero] at hsp
     obtain⟨cells',h1,h2,h3⟩:=Z1 r vs (Fr cs off u.cells) us (v.cells.zipIdx.foldl (fun cs (c,j)=>cs.setIfInBounds (off+j) c) cells) h (by simpa using hl) (fun j p q hp' hq'=>hp (j+1) p q (by simpa using hp') (by simpa using hq')) (by
      rw[←Array.length_toList,←Array.foldl_toList,Array.toList_zipIdx,hsp,I4 _ _ _ (by rw[k1,c2,Array.length_toList,hc];exact c3),I4 _ _ _ (by rw[c2];exact c3),Array.length_toList,hc]) (fun i x y hx hy=>by
      rw[←Array.getElem?_toList,←Array.foldl_toList,Array.toList_zipIdx,hsp] at hy
      exact Un (Nat.le_of_eq (hc.symm.trans Array.length_toList.symm)) k1 (by rw[c2];exact c3) (fun i x y hx hy=>hr i x y hx (by simpa using hy)) k2 i x y hx hy)
     refine⟨cells',?_,h2,h3⟩
     unfold Instr.fill
     rw[hpl]
     simp only[]
     rw[if_neg (by simp[hvs,hc];omega)]
     exact h1
theorem GG.evP {C:Cx} {bm:BM} {gt:Nat→Value} {fp:Nat→Nat→Prop} {σ:AS} {a:Act} {w:World} (h:GG C bm gt fp σ a w):∀{l:List (Nat×Operand)} {us:List (Nat×AV)},evP σ l=some us→(l.map fun p=>(p.1,a.eval p.2)).length=us.length∧∀(j:Nat) p q,us[j]?=some p→(l.map fun p=>(p.1,a.eval p.2))[j]?=some q→p.1=q.1∧RA C.W.heap.size fp w bm gt p.2 q.2
 |[],us,hl=>by cases hl;exact⟨rfl,fun j p q hp=>by simp at hp⟩
 |(i,x)::r,us,hl=>by
  unfold Proofs.YtokmjjkbginodaaGreatDoor.evP at hl
  split at hl
  ·rename_i u us' h1 h2
   cases hl
   obtain⟨k1,k2⟩:=GG.evP h h2
   refine⟨by simpa using k1,fun j p q hp hq=> ?_⟩
   cases j with
   |zero=>simp at hp hq;subst hp hq;exact⟨rfl,h.eval h1⟩
   |succ j=>exact k2 j p q (by simpa using hp) (by simpa using hq)
  ·cases hl
theorem ltN {t n:Nat} (h:Nat.blt t n=true):t<n:=Nat.le_of_ble_eq_true h
theorem leN {t n:Nat} (h:Nat.ble t n=true):t≤n:=Nat.le_of_ble_eq_true h
theorem wL {P:Program} {σ:AS} {p:Nat} {ty:TypeId} {k off:Nat} {cs:List AV} {d:TypeDesc} {z:Value} {sz by':Nat} {u:AV} (h0:Nat.blt p 1000000=true) (h1:lk p σ.tm=some (.ptr k off)) (h2:lk k σ.bx=some cs) (hT:TyOk P ty d z sz by') (hD:Jm d=false) (h3:cs[off]?=some u):nJ P σ (.cell p ty) u:=
 ⟨h0,k,off,cs,d,z,sz,by',h1,h2,hT,.inl ⟨hD,h3⟩⟩
theorem sC {P:Program} {σ:AS} {p:Nat} {ty:TypeId} {k off:Nat} {cs us:List AV} {d:TypeDesc} {z:Value} {sz by':Nat} (h0:Nat.blt p 1000000=true) (h1:lk p σ.tm=some (.ptr k off)) (h2:lk k σ.bx=some cs) (hT:TyOk P ty d z sz by') (hD:Jm d=true) (h3:(cs.drop off).take sz=us) (h4:us.length=sz):nJ P σ (.cell p ty) (.agg us):=
 ⟨h0,k,off,cs,d,z,sz,by',h1,h2,hT,.inr ⟨hD,us,h3,h4,rfl⟩⟩
structure StrOk (P:Program) (t:TypeId) (pl:List (Nat×Nat)):Prop where
 ex:∃fs:Array Field,P.underlying t=some (.struct fs)∧∀w,(fs.mapM fun f=>do pure (f.offset,←sizeOf f.type):Sem (Array (Nat×Nat))).run P w= .ok pl.toArray w
def Ew:List AV→Option (List D)
 |[]=>some []
 | .d x::r=>match Ew r with
   |some l=>some (x::l)
   |none=>none
 | .own _ n sz _ cs::r=>match Ew r with
   |some l=>some (.sl true n sz cs::l)
   |none=>none
 |_::_=>none
theorem Ku {B:Nat} {fp:Nat→Nat→Prop} {w:World} {bm:BM} {gt:Nat→Value}:∀{us:List AV} {ds:List D},Ew us=some ds→ds.length=us.length∧∀(i:Nat) x d v,us[i]?=some x→ds[i]?=some d→RA B fp w bm gt x v→Rd B fp w d v
 |[],ds,h=>by cases h;exact⟨rfl,fun i x d v hx=>by simp at hx⟩
 | .d x::r,ds,h=>by
   unfold Ew at h
   split at h
   ·rename_i l hl
    cases h
    obtain⟨k1,k2⟩:=Ku (B:=B) (fp:=fp) (w:=w) (bm:=bm) (gt:=gt) hl
    refine⟨by simp[k1],fun i x' d v hx hd hr=> ?_⟩
    cases i with
    |zero=>simp at hx hd;subst hx hd;cases hr with|d hr=>exact hr
    |succ i=>exact k2 i x' d v (by simpa using hx) (by simpa using hd) hr
   ·cases h
 | .own k n sz e cs::r,ds,h=>by
   unfold Ew at h
   split at h
   ·rename_i l hl
    cases h
    obtain⟨k1,k2⟩:=Ku (B:=B) (fp:=fp) (w:=w) (bm:=bm) (gt:=gt) hl
    refine⟨by simp[k1],fun i x' d v hx hd hr=> ?_⟩
    cases i with
    |zero=>simp at hx hd;subst hx hd;cases hr with|own hr=>exact hr
    |succ i=>exact k2 i x' d v (by simpa using hx) (by simpa using hd) hr
   ·cases h
 | .ptr _ _::_,_,h=>by cases h
 | .agg _::_,_,h=>by cases h
 | .tup _::_,_,h=>by cases h
section
variable {P:Program} {C:Cx} {o:Oper} {σ:AS} {t:Nat}
theorem jQ {ty:TypeId} {ps:Array (Nat×Operand)} {pl:List (Nat×Nat)} {d:TypeDesc} {z:Value} {sz by':Nat} {us:List (Nat×AV)} {zs cs:List AV} (ho:o.op= .build ty ps) (hd:o.dst=some t) (ht:t<C.N) (hT:TyOk P ty d z sz by') (hS:StrOk P ty pl) (hz:z.cells.toList.map (fun x=>AV.d (.v x))=zs)
 (hp:evP σ ps.toList=some us) (hf:Ml (fun i:Nat=>pl[i]?) zs us=some cs):Bp P C o σ (σ.put t (.agg cs)):=
 Ba hd ht fun a w bm gt fp hg=>by
  obtain⟨k1,k2⟩:=hg.evP hp
  obtain⟨cells',h1,h2,h3⟩:=Z1 us _ zs cs z.cells hf k1 k2 (by rw[←hz];simp) (fun i x y hx hy=>by
   rw[←hz,List.getElem?_map] at hx
   simp only[Array.getElem?_toList,hy,Option.map_some,Option.some.injEq] at hx
   subst hx
   exact .d (.v _))
  obtain⟨fs,hu,hpl⟩:=hS.ex
  refine⟨.agg cells',?_,?_⟩
  ·simp only[execOp,ho,Instr.build]
   have hps:(ps.map fun p=>(p.1,a.eval p.2)).toList=ps.toList.map fun p=>(p.1,a.eval p.2):=by simp
   have hpf:(fun i:Nat=>pl.toArray[i]?)=fun i:Nat=>pl[i]?:=by funext i;simp
   simp only[Sem.run_bind,Sem.run_pure,Result.andThen_ok,hT.zero,run_underlying hu,hpl,hps,hpf,h1]
  ·have:cells'=cells'.toList.toArray:=by simp
   rw[this]
   exact .agg _ (by rw[Array.length_toList,h2]) fun i x y hx hy=>h3 i x y hx (by simpa using hy)
theorem Yb {st e:TypeId} {n:Nat} {ps:Array (Nat×Operand)} {d:TypeDesc} {z zS:Value} {sz by' s2 b2:Nat} {us:List (Nat×AV)} {cs:List AV} {ds:List D} {κ:Nat} (ho:o.op= .buildSlice st n ps) (hd:o.dst=some t) (ht:t<C.N) (hT:TyOk P st (.slice e) zS s2 b2) (hE:TyOk P e d z sz by')
 (hp:evP σ ps.toList=some us) (hf:Ml (fun i=>some (i*sz,sz)) ((List.range (n*sz)).map fun i=>AV.d (.v (z.cells[i%z.cells.size]!))) us=some cs) (hds:Ew cs=some ds) (hone:Mh cs=true) (hn:n*sz≤1000) (hn2:n≤1000) (hc:σ.clean κ=true):
 Bp P C o σ ⟨(t,.own κ n sz e ds)::σ.tm,σ.bx,(κ,n,sz,e)::σ.tk⟩:=by
 rintro a w ⟨bm,gt,fp,hg⟩ K Q hK
 obtain⟨k1,k2⟩:=hg.evP hp
 obtain⟨zc,hzc⟩:∃zc:Array Value,(if n*sz=0 then #[] else z.cells)=zc:=⟨_,rfl⟩
 obtain⟨c0,hc0⟩:∃c0:Array Value,(Array.range (n*sz)).map (fun i=>zc[i%zc.size]!)=c0:=⟨_,rfl⟩
 have hc0l:c0.toList=(List.range (n*sz)).map fun i=>z.cells[i%z.cells.size]!:=by
  rw[←hc0]
  by_cases h0:n*sz=0
  ·simp[h0]
  ·rw[if_neg h0] at hzc
   subst hzc
   simp[Array.toList_range]
 obtain⟨cells',h1,h2,h3⟩:=Z1 us _ _ cs c0 hf k1 k2 (by rw[←Array.length_toList,hc0l];simp) (fun i x y hx hy=>by
  rw[←Array.getElem?_toList,hc0l] at hy
  rw[List.getElem?_map,Option.map_eq_some_iff] at hx
  obtain⟨j,hj,rfl⟩:=hx
  rw[List.getElem?_map,hj] at hy
  simp only[Option.map_some,Option.some.injEq] at hy
  subst hy
  exact .d (.v _))
 obtain⟨q1,q2⟩:=Ku (B:=C.W.heap.size) (fp:=fp) (w:=w) (bm:=bm) (gt:=gt) hds
 have hcl:cells'.size=n*sz:=by
  have:us.length=us.length:=rfl
  have hfl:∀(ps:List (Nat×AV)) (cs us:List AV),Ml (fun i=>some (i*sz,sz)) cs ps=some us→us.length=cs.length:=by
   intro ps
   induction ps with
   |nil=>intro cs us h;cases h;rfl
   |cons p r ih=>
    intro cs us h
    obtain⟨i,u⟩:=p
    unfold Ml at h
    simp only at h
    cases hcond:(u.flat&&Nat.beq u.cells.length sz&&Nat.ble (i*sz+sz) cs.length) with
    |false=>rw[hcond] at h;cases h
    |true=>
     rw[hcond] at h
     simp only[At] at hcond
     rw[ih _ _ h,I4]
     rw[Nat.eq_of_beq_eq_true hcond.1.2]
     exact Nat.le_of_ble_eq_true hcond.2
  rw[h2,hfl _ _ _ hf];simp
 have hrun:(execOp a.eval o).run P w= .ok (.value (.slice (some ⟨w.heap.size,0,none⟩) n n)) (w.alloc (.cells cells' e)):=by
  simp only[execOp,ho,Instr.buildSlice]
  have hps:(ps.map fun p=>(p.1,a.eval p.2)).toList=ps.toList.map fun p=>(p.1,a.eval p.2):=by simp
  have hlim:¬(n*sz>2^24):=by omega
  simp only[Sem.run_bind,Sem.run_pure,Result.andThen_ok,hT.und,hE.size,if_neg hlim]
  by_cases h0:n*sz=0
  ·rw[if_pos h0] at hzc
   subst hzc
   simp only[if_pos h0,Sem.run_bind,Sem.run_pure,Result.andThen_ok,hps,hc0,h1,newRow,newObj,Sem.run]
   simp[go_sem]
  ·rw[if_neg h0] at hzc
   subst hzc
   simp only[if_neg h0,Sem.run_bind,Sem.run_pure,Result.andThen_ok,hE.zero,hps,hc0,h1,newRow,newObj,Sem.run]
   simp[go_sem]
 unfold Oper.wp
 rw[hrun,Oper.upon_value,hd]
 have hA:=hg.adopt hc sz e
 have hb:Below w.heap.size w (w.alloc (.cells cells' e)):=(Below.refl _ _).alloc (Nat.le_refl _) _
 have hobj:(w.alloc (.cells cells' e)).heap[w.heap.size]?=some (.cells cells' e (0,0)):=heap_alloc_new w _
 have hown:(w.alloc (.cells cells' e)).ownsRow C.W.heap.size e sz (.slice (some ⟨w.heap.size,0,none⟩) n n) n (cells'.toList.take (n*sz)):=
  ⟨by rw[Al,Array.length_toList,hcl,Nat.min_self],.inr ⟨w.heap.size,n,cells',rfl,hg.bel.size,hobj,Nat.le_refl _,by unfold maxLen;omega,hcl,rfl⟩⟩
 have h4:=hA.retok (k:=κ) (n':=n) (v':= .slice (some ⟨w.heap.size,0,none⟩) n n) (Bs _ _ _) hb.size (hg.bel.trans (hb.mono hg.bel.size)) (fun j hj _=>hb.block j hj) (fun g o hg' _=>by rw[Cb] at hg';cases hg') ⟨_,hown⟩ (fun g hg'=> .inr (by simp only[Value.ownBlock,Option.some.injEq] at hg';omega))
 simp only[AS.clean,At] at hc
 simp only[Np hc.1,Ks hc.2] at h4
 have hup:∀j,H6 (H6 gt κ (.slice none 0 0)) κ (.slice (some ⟨w.heap.size,0,none⟩) n n) j=H6 gt κ (.slice (some ⟨w.heap.size,0,none⟩) n n) j:=fun j=>by unfold H6;split<;>rfl
 have hup':H6 (H6 gt κ (.slice none 0 0)) κ (.slice (some ⟨w.heap.size,0,none⟩) n n) κ= .slice (some ⟨w.heap.size,0,none⟩) n n:=by rw[hup,Cb]
 have hR:RA C.W.heap.size (fun b o=>fp b o∨((Value.slice (some ⟨w.heap.size,0,none⟩) n n).ownBlock=some b∧o<n*sz)) (w.alloc (.cells cells' e)) bm (H6 (H6 gt κ (.slice none 0 0)) κ (.slice (some ⟨w.heap.size,0,none⟩) n n)) (.own κ n sz e ds) (.slice (some ⟨w.heap.size,0,none⟩) n n):=by
  have hcell:∀b o,fp b o→(w.alloc (.cells cells' e)).cell? ⟨b,o,none⟩=w.cell? ⟨b,o,none⟩:=fun b o hf=>hb.cell (p:=⟨b,o,none⟩) (hg.fpb b o hf).2
  conv=>rhs;rw[←hup']
  refine .own ?_
  rw[hup']
  refine X9 hg.bel.size hobj (Nat.le_refl _) (by unfold maxLen;omega) hcl (by rw[q1,←h2,hcl]) (fun o ho=> .inr ⟨rfl,ho⟩) (fun i d v hd' hv=> ?_) (fun i v hi hv=> ?_)
  ·have hlt:i<cs.length:=by rw[←q1];exact(Aw.1 hd').1
   have hx:=Am hlt
   exact(q2 i _ d v hx hd' (h3 i _ v hx hv)).keep (Nat.le_refl _) (fun _ _ x=> .inl x) hcell
  ·have hlt:i<cs.length:=by rw[←h2,hcl];exact hi
   have hx:=Am hlt
   exact(h3 i _ v hx hv).oneCell (Mi hone hx)
 obtain⟨bm',gt2,fp2,hG2⟩:G C ⟨(t,.own κ n sz e ds)::σ.tm,σ.bx,(κ,n,sz,e)::(κ,0,sz,e)::σ.tk⟩ (a.put (some t) (.slice (some ⟨w.heap.size,0,none⟩) n n)) (w.alloc (.cells cells' e)):=⟨_,_,_,h4.put (t:=t) ht hR⟩
 refine hK _ _ ⟨bm',gt2,fp2,{hG2 with tk:=fun j n' s' e' hj=> ?_,tki:=fun j j' x x' hj hj'=> ?_,tkb:=fun j j' x c hj=> ?_,ztk:=fun j x hj=> ?_}⟩
 all_goals
  have drop:∀j (x:Nat×Nat×TypeId),lk j ((κ,n,sz,e)::σ.tk)=some x→lk j ((κ,n,sz,e)::(κ,0,sz,e)::σ.tk)=some x:=fun j x hj=>by
   by_cases ej:κ=j
   ·subst ej;rw[Bs] at hj⊢;exact hj
   ·rw[Cf _ _ ej] at hj⊢;rw[Cf _ _ ej];exact hj
 ·exact hG2.ztk j x (drop j x hj)
 ·exact hG2.tk j n' s' e' (drop j _ hj)
 ·exact hG2.tki j j' x x' (drop j x hj) (drop j' x' hj')
 ·exact hG2.tkb j j' x c (drop j x hj)
end
structure It where
 rb:List Nat
 tm:Option (Nat×AV)
 bx:Option (Nat×List AV)
 tk:Option (Nat×Nat×Nat×TypeId)
 cr:List Nat
 mt:List (Nat×AV)
 mb:List (Nat×List AV)
 ex:List Nat
def oc {α:Type}:Option α→List α→List α
 |some x,l=>x::l
 |none,l=>l
def AS.add (σ:AS) (it:It):AS:=⟨oc it.tm (it.mt++σ.tm),oc it.bx (it.mb++σ.bx),oc it.tk σ.tk⟩
def It.lT (it:It):List (Nat×AV):=oc it.tm it.mt
def It.lB (it:It):List (Nat×List AV):=oc it.bx it.mb
def It.lK (it:It):List (Nat×Nat×Nat×TypeId):=oc it.tk []
def kl {β:Type}:List (Nat×β)→List Nat
 |[]=>[]
 |(k,_)::r=>k::kl r
def Ln (t:Nat):List Nat→Bool
 |[]=>false
 |s::r=>Nat.beq s t||Ln t r
def exT (id:Nat) (ks:List Nat):List (Nat×AV)→Bool
 |[]=>true
 |(k,u)::r=>(Ln k ks||u.clean id)&&exT id ks r
def exB (id:Nat) (ks:List Nat):List (Nat×List AV)→Bool
 |[]=>true
 |(k,c)::r=>(Ln k ks||AV.cleans id c)&&exB id ks r
def clX (it:It) (id:Nat) (tm:List (Nat×AV)) (bx:List (Nat×List AV)):Bool:=exT id (kl it.lT) tm&&exB id (kl it.lB) bx
theorem EM {id:Nat} {ks:List Nat} {l m:List (Nat×AV)} (h1:exT id ks l=true) (h2:exT id ks m=true):exT id ks (l++m)=true:=by
 induction l with
 |nil=>exact h2
 |cons p r ih=>
  obtain⟨k,u⟩:=p
  simp only[exT,List.cons_append,At] at*
  exact⟨h1.1,ih h1.2⟩
theorem EN {id:Nat} {ks:List Nat} {l m:List (Nat×List AV)} (h1:exB id ks l=true) (h2:exB id ks m=true):exB id ks (l++m)=true:=by
 induction l with
 |nil=>exact h2
 |cons p r ih=>
  obtain⟨k,u⟩:=p
  simp only[exB,List.cons_append,At] at*
  exact⟨h1.1,ih h1.2⟩
theorem nK {id:Nat} {ks:List Nat} {t:Nat} {u:AV}:∀{l:List (Nat×AV)},exT id ks l=true→lk t l=some u→Ln t ks=true∨u.clean id=true
 |[],_,h=>by cases h
 |(k,v)::r,h1,h=>by
  simp only[exT,At,Bool.or_eq_true] at h1
  simp only[lk] at h
  cases hb:Nat.beq k t with
  |true=>
   rw[hb] at h
   obtain rfl:=Nat.eq_of_beq_eq_true hb
   cases h
   exact h1.1
  |false=>rw[hb] at h;exact nK h1.2 h
theorem nL {id:Nat} {ks:List Nat} {t:Nat} {u:List AV}:∀{l:List (Nat×List AV)},exB id ks l=true→lk t l=some u→Ln t ks=true∨AV.cleans id u=true
 |[],_,h=>by cases h
 |(k,v)::r,h1,h=>by
  simp only[exB,At,Bool.or_eq_true] at h1
  simp only[lk] at h
  cases hb:Nat.beq k t with
  |true=>
   rw[hb] at h
   obtain rfl:=Nat.eq_of_beq_eq_true hb
   cases h
   exact h1.1
  |false=>rw[hb] at h;exact nL h1.2 h
theorem Kv {β:Type} (t:Nat) (l m:List (Nat×β)):lk t (l++m)=match lk t l with|some u=>some u|none=>lk t m:=by
 induction l with
 |nil=>rfl
 |cons p r ih=>
  obtain⟨k,u⟩:=p
  simp only[List.cons_append,lk]
  cases Nat.beq k t with
  |true=>rfl
  |false=>exact ih
theorem P7 {β:Type} {t:Nat} {u:β}:∀{l:List (Nat×β)},lk t l=some u→t∈kl l
 |[],h=>by cases h
 |(k,v)::r,h=>by
  simp only[lk] at h
  cases hb:Nat.beq k t with
  |true=>obtain rfl:=Nat.eq_of_beq_eq_true hb;simp[kl]
  |false=>rw[hb] at h;exact List.mem_cons_of_mem _ (P7 h)
theorem dH {β:Type} {t:Nat}:∀{l:List (Nat×β)},t∈kl l→∃u,lk t l=some u
 |[],h=>by cases h
 |(k,v)::r,h=>by
  simp only[lk]
  cases hb:Nat.beq k t with
  |true=>exact⟨v,rfl⟩
  |false=>
   rcases List.mem_cons.1 h with rfl|h
   ·simp at hb
   ·exact dH h
theorem O1 (σ:AS) (it:It):(σ.add it).tm=it.lT++σ.tm:=by unfold AS.add It.lT;cases it.tm<;>rfl
theorem Rm (σ:AS) (it:It):(σ.add it).bx=it.lB++σ.bx:=by unfold AS.add It.lB;cases it.bx<;>rfl
theorem jR (σ:AS) (it:It):(σ.add it).tk=it.lK++σ.tk:=by unfold AS.add It.lK;cases it.tk<;>rfl
def AS.addAll (σ:AS):List It→AS
 |[]=>σ
 |it::r=>(σ.add it).addAll r
def opT:List Operand→List Nat
 |[]=>[]
 | .tmp t::r=>t::opT r
 |_::r=>opT r
def rdT (ops:Array Oper) (o:Oper):List Nat:=opT o.op.operands.toList++(match o.guard with
 |some (j,_)=>match ops[j]? with
  |some oj=>match oj.dst with
   |some t=>[t]
   |none=>[]
  |none=>[]
 |none=>[])
def AgT (o:Oper) (σ σk:AS):Prop:=∀x∈o.op.operands.toList,σ.eval x=σk.eval x
structure AgB (it:It) (σ σk:AS):Prop where
 rb:∀b∈it.rb,lk b σ.bx=lk b σk.bx
 mt:∀t∈kl it.lT,lk t σ.tm=lk t σk.tm
 mb:∀b∈kl it.lB,lk b σ.bx=lk b σk.bx
 tk:∀k∈it.ex,lk k σ.tk=lk k σk.tk
 cx:∀k∈it.ex,clX it k σ.tm σ.bx=true
def ClA (l:List Nat) (σ:AS):Prop:=∀id∈l,σ.clean id=true
def LA (P:Program) (C:Cx) (o:Oper) (it:It) (σk:AS):Prop:=∀σ,AgT o σ σk→AgB it σ σk→ClA it.cr σ→Bp P C o σ (σ.add it)
def Oo (P:Program) (C:Cx) (ops:Array Oper) (o:Oper) (it:It) (σk:AS):Prop:=
 ∀σ,(∀t∈rdT ops o,lk t σ.tm=lk t σk.tm)→AgB it σ σk→ClA it.cr σ→∀a w,G C σ a w→∀(K:Act→World→Prop) Q,(∀a' w',G C (σ.add it) a' w'→K a' w')→wpList P ops (Exit.then K Q) [o] a w
theorem EO {t:Nat} (l:List Operand) (h:Operand.tmp t∈l):t∈opT l:=by
 induction l with
 |nil=>simp at h
 |cons x r ih=>
  rcases List.mem_cons.1 h with h'|h'
  ·subst h';simp[opT]
  ·clear h
   cases x<;>simp only[opT]<;>first|exact List.mem_cons_of_mem _ (ih h')|exact ih h'
theorem wM {ops:Array Oper} {o:Oper} {σ σk:AS} (h:∀t∈rdT ops o,lk t σ.tm=lk t σk.tm):AgT o σ σk:=by
 intro x hx
 cases x with
 |tmp t=>exact congrArg (fun x=>bif Nat.blt t 1000000 then x else none) (h t (List.mem_append_left _ (EO _ hx)))
 |const v=>rfl
 |func f=>rfl
 |global g=>rfl
section
variable {P:Program} {C:Cx} {ops:Array Oper} {o:Oper} {σ:AS} {it:It} {t:Nat}
theorem sE (hg:o.guard=none) (h:LA P C o it σ):Oo P C ops o it σ:=fun σ' hT hB hc a w hG K Q hK=>by
 refine wpList_plain hg fun K' hK'=> ?_
 exact h σ' (wM hT) hB hc a w hG K' _ fun a' w' h'=>hK' _ _ (hK a' w' h')
theorem sF {j:Nat} {b:Bool} {oj:Oper} {s:Nat} (hg:o.guard=some (j,b)) (hj:ops[j]?=some oj) (hd:oj.dst=some s) (hb:lk s σ.tm=some (.d (.v (.bool b)))) (hN0:s<1000000) (h:LA P C o it σ):Oo P C ops o it σ:=fun σ' hT hB hc a w hG K Q hK=>by
 have hb':lk s σ'.tm=some (.d (.v (.bool b))):=(hT s (by simp[rdT,hg,hj,hd])).trans hb
 have hy:=Hm hG hj hd hb' hN0
 refine wpList_step fun K' hK'=> ?_
 rw[if_pos (by simp[Region.wanted,hg,hy])]
 exact h σ' (wM hT) hB hc a w hG K' _ fun a' w' h'=>hK' _ _ (hK a' w' h')
theorem wN {j:Nat} {b c:Bool} {oj:Oper} {s:Nat} (hg:o.guard=some (j,b)) (hj:ops[j]?=some oj) (hd:oj.dst=some s) (hb:lk s σ.tm=some (.d (.v (.bool c)))) (hN0:s<1000000) (hc:c= !b) (ht:o.dst=some t) (hN:t<C.N):Oo P C ops o ⟨[],some (t,.d (.v undef)),none,none,[],[],[],[]⟩ σ:=fun σ' hT hB _ a w hG K Q hK=>by
 have hb':lk s σ'.tm=some (.d (.v (.bool c))):=(hT s (by simp[rdT,hg,hj,hd])).trans hb
 have hy:=Hm hG hj hd hb' hN0
 refine wpList_step fun K' hK'=> ?_
 rw[if_neg (by subst hc;simp[Region.wanted,hg,hy]),ht]
 exact hK' _ _ (hK _ _ (hG.put hN undef))
theorem sG {j:Nat} {b c:Bool} {oj:Oper} {s:Nat} (hg:o.guard=some (j,b)) (hj:ops[j]?=some oj) (hd:oj.dst=some s) (hb:lk s σ.tm=some (.d (.v (.bool c)))) (hN0:s<1000000) (hc:c= !b) (ht:o.dst=none):Oo P C ops o ⟨[],none,none,none,[],[],[],[]⟩ σ:=fun σ' hT hB _ a w hG K Q hK=>by
 have hb':lk s σ'.tm=some (.d (.v (.bool c))):=(hT s (by simp[rdT,hg,hj,hd])).trans hb
 have hy:=Hm hG hj hd hb' hN0
 refine wpList_step fun K' hK'=> ?_
 rw[if_neg (by subst hc;simp[Region.wanted,hg,hy]),ht]
 exact hK' _ _ (hK _ _ hG)
theorem sH {j:Nat} {b:Bool} {x:Array Value} {oj:Oper} {s:Nat} (hg:o.guard=some (j,b)) (hj:ops[j]?=some oj) (hd:oj.dst=some s) (hb:lk s σ.tm=some (.d (.v (.tuple x)))) (hN0:s<1000000) (ht:o.dst=some t) (hN:t<C.N):Oo P C ops o ⟨[],some (t,.d (.v undef)),none,none,[],[],[],[]⟩ σ:=fun σ' hT hB _ a w hG K Q hK=>by
 have hb':lk s σ'.tm=some (.d (.v (.tuple x))):=(hT s (by simp[rdT,hg,hj,hd])).trans hb
 have hy:=Jv hG hj hd hb' hN0
 refine wpList_step fun K' hK'=> ?_
 rw[if_neg (by simp[Region.wanted,hg,hy]),ht]
 exact hK' _ _ (hK _ _ (hG.put hN undef))
theorem jS {j:Nat} {b:Bool} {x:Array Value} {oj:Oper} {s:Nat} (hg:o.guard=some (j,b)) (hj:ops[j]?=some oj) (hd:oj.dst=some s) (hb:lk s σ.tm=some (.d (.v (.tuple x)))) (hN0:s<1000000) (ht:o.dst=none):Oo P C ops o ⟨[],none,none,none,[],[],[],[]⟩ σ:=fun σ' hT hB _ a w hG K Q hK=>by
 have hb':lk s σ'.tm=some (.d (.v (.tuple x))):=(hT s (by simp[rdT,hg,hj,hd])).trans hb
 have hy:=Jv hG hj hd hb' hN0
 refine wpList_step fun K' hK'=> ?_
 rw[if_neg (by simp[Region.wanted,hg,hy]),ht]
 exact hK' _ _ (hK _ _ hG)
end
inductive Scr (P:Program) (C:Cx) (ops:Array Oper):List Oper→List It→AS→Prop
 |nil {σ:AS}:Scr P C ops [] [] σ
 |cons {o:Oper} {r:List Oper} {it:It} {its:List It} {σ:AS} (h:Oo P C ops o it σ) (k:Scr P C ops r its (σ.add it)):Scr P C ops (o::r) (it::its) σ
def I6 {β:Type} (sel:It→List (Nat×β)) (t:Nat) (d:Nat→Bool):Nat→List It→Option β→Option β
 |_,[],cur=>cur
 |k,it::r,cur=>I6 sel t d (k+1) r (match d k,lk t (sel it) with
  |true,some u=>some u
  |_,_=>cur)
theorem sI {β:Type} (sel:It→List (Nat×β)) (t:Nat) (d:Nat→Bool) (k:Nat) (it:It) (r:List It) (cur:Option β):I6 sel t d k (it::r) cur=I6 sel t d (k+1) r (match d k,lk t (sel it) with
 |true,some u=>some u
 |_,_=>cur):=rfl
def wrs {β:Type} (sel:It→List (Nat×β)) (t:Nat) (it:It):Bool:=(lk t (sel it)).isSome
theorem G4 {β:Type} {sel:It→List (Nat×β)} {t:Nat} {it:It}:wrs sel t it=true↔∃u,lk t (sel it)=some u:=Option.isSome_iff_exists
theorem wO {β:Type} {sel:It→List (Nat×β)} {t:Nat} {it:It} (h:¬wrs sel t it=true):lk t (sel it)=none:=by
 cases hh:lk t (sel it) with
 |none=>rfl
 |some u=>exact absurd (G4.2 ⟨u,hh⟩) h
theorem Bu {β:Type} {sel:It→List (Nat×β)} {t:Nat} {d d':Nat→Bool}:∀(l:List It) (k:Nat) (cur:Option β),(∀(i:Nat) it,l[i]?=some it→wrs sel t it=true→d (k+i)=d' (k+i))→I6 sel t d k l cur=I6 sel t d' k l cur
 |[],_,_,_=>rfl
 |it::r,k,cur,h=>by
  unfold I6
  have h0:=h 0 it rfl
  have e:(match d k,lk t (sel it) with|true,some u=>some u|_,_=>cur)=(match d' k,lk t (sel it) with|true,some u=>some u|_,_=>cur):=by
   cases hs:lk t (sel it) with
   |none=>cases d k<;>cases d' k<;>rfl
   |some u=>
    have:=h0 (G4.2 ⟨u,hs⟩)
    rw[Nat.add_zero] at this
    rw[this]
  rw[e]
  exact Bu r (k+1) _ fun i it' hi hw=>by
   have:=h (i+1) it' (by simpa using hi) hw
   rw[show k+1+i=k+(i+1) by omega];exact this
theorem Fz {β:Type} {sel:It→List (Nat×β)} {t:Nat} {d:Nat→Bool}:∀(l:List It) (k:Nat) (cur:Option β),(∀(i:Nat) it,l[i]?=some it→wrs sel t it=true→d (k+i)=false)→I6 sel t d k l cur=cur
 |[],_,_,_=>rfl
 |it::r,k,cur,h=>by
  unfold I6
  have h0:=h 0 it rfl
  have e:(match d k,lk t (sel it) with|true,some u=>some u|_,_=>cur)=cur:=by
   cases hs:lk t (sel it) with
   |none=>cases d k<;>rfl
   |some u=>
    have:=h0 (G4.2 ⟨u,hs⟩)
    rw[Nat.add_zero] at this
    rw[this]
  rw[e]
  exact Fz r (k+1) _ fun i it' hi hw=>by
   have:=h (i+1) it' (by simpa using hi) hw
   rw[show k+1+i=k+(i+1) by omega];exact this
theorem Rn {β:Type} {sel:It→List (Nat×β)} {t:Nat} {u:β} {d:Nat→Bool}:∀(l:List It) (k:Nat) (cur:Option β) (m:Nat) (it:It),l[m]?=some it→lk t (sel it)=some u→d (k+m)=true→(∀(i:Nat) it',m<i→l[i]?=some it'→wrs sel t it'=true→d (k+i)=false)→I6 sel t d k l cur=some u
 |[],_,_,m,it,h,_,_,_=>by simp at h
 |it0::r,k,cur,0,it,h,hs,hd,hn=>by
  simp at h
  subst h
  unfold I6
  rw[Nat.add_zero] at hd
  rw[hd,hs]
  exact Fz r (k+1) _ fun i it' hi hw=>by
   have:=hn (i+1) it' (by omega) (by simpa using hi) hw
   rw[show k+1+i=k+(i+1) by omega];exact this
 |it0::r,k,cur,m+1,it,h,hs,hd,hn=>by
  unfold I6
  exact Rn r (k+1) _ m it (by simpa using h) hs (by rw[show k+1+m=k+(m+1) by omega];exact hd) fun i it' hi hl hw=>by
   have:=hn (i+1) it' (by omega) (by simpa using hl) hw
   rw[show k+1+i=k+(i+1) by omega];exact this
theorem Mm {β:Type} (sel:It→List (Nat×β)) (pr:AS→List (Nat×β)) (hp:∀σ it,pr (σ.add it)=sel it++pr σ) (t:Nat):∀(l:List It) (σ:AS) (k m:Nat),lk t (pr (σ.addAll (l.take k)))=I6 sel t (fun i=>decide (i<m+k)) m l (lk t (pr σ)):=by
 intro l
 induction l with
 |nil=>intro σ k m;simp[AS.addAll,I6]
 |cons it r ih=>
  intro σ k m
  cases k with
  |zero=>
   rw[List.take_zero]
   simp only[AS.addAll]
   rw[Fz]
   intro i it' _ _
   simp
  |succ k=>
   rw[List.take_succ_cons]
   simp only[AS.addAll]
   rw[ih (σ.add it) k (m+1)]
   have h0:decide (m<m+(k+1))=true:=by simp
   rw[sI (it:=it)]
   simp only[h0]
   have e2:(fun i=>decide (i<m+1+k))=fun i=>decide (i<m+(k+1)):=by funext i;congr 1;apply propext;omega
   rw[e2,hp,Kv]
   cases lk t (sel it)<;>rfl
theorem Hp (its:List It) (σ:AS) (t:Nat) (k:Nat):lk t (σ.addAll (its.take k)).tm=I6 It.lT t (fun i=>decide (i<k)) 0 its (lk t σ.tm):=by
 have:=Mm It.lT AS.tm O1 t its σ k 0
 simpa using this
theorem Hq (its:List It) (σ:AS) (t:Nat) (k:Nat):lk t (σ.addAll (its.take k)).bx=I6 It.lB t (fun i=>decide (i<k)) 0 its (lk t σ.bx):=by
 have:=Mm It.lB AS.bx Rm t its σ k 0
 simpa using this
theorem Lo (its:List It) (σ:AS) (t:Nat) (k:Nat):lk t (σ.addAll (its.take k)).tk=I6 It.lK t (fun i=>decide (i<k)) 0 its (lk t σ.tk):=by
 have:=Mm It.lK AS.tk jR t its σ k 0
 simpa using this
def Sq:List Oper→List Nat→List Nat
 |[],acc=>acc
 |o::r,acc=>Sq r (acc++[o.after.toList.foldl (fun m e=>match Region.binds .any e with
  |true=>m|||(1<<<e.on)|||acc.getD e.on 0
  |false=>m) 0])
def rch (ms:List Nat) (k j:Nat):Bool:=(ms.getD k 0).testBit j
theorem Ur (d:Nat→Bool):∀(l:List Oper) (acc:List Nat) (all:List Oper),all=(all.take acc.length)++l→acc.length≤all.length→(∀k j,k<acc.length→∀o,all[k]?=some o→(∀m o',all[m]?=some o'→d m=true→Fo o' d)→Fo o d→(acc.getD k 0).testBit j=true→d j=true)→
 ∀k j,k<all.length→∀o,all[k]?=some o→(∀m o',all[m]?=some o'→d m=true→Fo o' d)→Fo o d→((Sq l acc).getD k 0).testBit j=true→d j=true:=by
 intro l
 induction l with
 |nil=>
  intro acc all hall hle h k j hk o ho hcl hdep hb
  refine h k j ?_ o ho hcl hdep hb
  rw[List.append_nil] at hall
  have:=congrArg List.length hall
  rw[Al] at this
  omega
 |cons o0 r ih=>
  intro acc all hall hle h
  have hlt:acc.length<all.length:=by
   have:=congrArg List.length hall
   rw[Ap,Al,Ag] at this
   omega
  have hget:all[acc.length]?=some o0:=by
   rw[hall,List.getElem?_append_right (by rw[Al];omega),Al]
   simp[Nat.min_eq_left hle]
  refine ih _ all ?_ (by simp;omega) ?_
  ·rw[Ap,List.length_singleton]
   have h1:all.take (acc.length+1)=all.take acc.length++[o0]:=by
    rw[List.take_succ_eq_append_getElem hlt]
    congr 1
    rw[Am hlt] at hget
    cases hget;rfl
   rw[h1,List.append_assoc]
   exact hall
  ·intro k j hk o ho hcl hdep hb
   rw[Ap,List.length_singleton] at hk
   by_cases hka:k<acc.length
   ·refine h k j hka o ho hcl hdep ?_
    rw[List.getD_eq_getElem?_getD,List.getElem?_append_left hka,←List.getD_eq_getElem?_getD] at hb
    exact hb
   ·obtain rfl:k=acc.length:=by omega
    rw[hget] at ho
    cases ho
    rw[List.getD_eq_getElem?_getD,List.getElem?_append_right (Nat.le_refl _),Nat.sub_self] at hb
    simp only[List.getElem?_cons_zero,Option.getD_some] at hb
    have Ol:∀(es:List Edge) (m:Nat),(∀e∈es,Region.binds .any e=true→d e.on=true)→(m.testBit j=true→d j=true)→(es.foldl (fun m e=>match Region.binds .any e with|true=>m|||(1<<<e.on)|||acc.getD e.on 0|false=>m) m).testBit j=true→d j=true:=by
     intro es
     induction es with
     |nil=>intro m _ h1 h2;exact h1 h2
     |cons e es ih2=>
      intro m h1 h2 h3
      rw[List.foldl_cons] at h3
      refine ih2 _ (fun e' he'=>h1 e' (List.mem_cons_of_mem _ he')) ?_ h3
      intro h4
      cases hbd:Region.binds .any e with
      |false=>rw[hbd] at h4;exact h2 h4
      |true=>
       rw[hbd] at h4
       simp only[Nat.testBit_or,Bool.or_eq_true] at h4
       have hde:=h1 e List.mem_cons_self hbd
       rcases h4 with(h4|h4)|h4
       ·exact h2 h4
       ·rw[Nat.one_shiftLeft,Nat.testBit_two_pow] at h4
        have:e.on=j:=by simpa using h4
        rw[←this];exact hde
       ·by_cases hea:e.on<acc.length
        ·have hel:e.on<all.length:=by omega
         exact h e.on j hea _ (Am hel) hcl (hcl e.on _ (Am hel) hde) h4
        ·rw[List.getD_eq_getElem?_getD,List.getElem?_eq_none (by omega)] at h4
         simp at h4
    exact Ol o0.after.toList 0 hdep (by simp) hb
theorem nM {t:Nat}:∀{l:List Nat},t∈l→Ln t l=true
 |s::r,h=>by
  rcases List.mem_cons.1 h with rfl|h
  ·simp[Ln]
  ·simp[Ln,nM h]
def Ro:List Nat→List Nat→Bool
 |[],_=>false
 |s::r,l=>Ln s l||Ro r l
theorem Br {t:Nat}:∀{l m:List Nat},t∈l→t∈m→Ro l m=true
 |s::r,m,h,hm=>by
  rcases List.mem_cons.1 h with rfl|h
  ·simp[Ro,nM hm]
  ·simp[Ro,Br h hm]
def C1 (ops:Array Oper) (oi:Oper) (a:It) (oj:Oper) (b:It):Bool:=
 Ro (kl a.lT) (rdT ops oj)||Ro (kl a.lT) (kl b.lT)||Ro (rdT ops oi) (kl b.lT)||Ro (kl a.lB) b.rb||Ro (kl a.lB) (kl b.lB)||Ro a.rb (kl b.lB)||Ro (kl a.lK) b.ex||Ro a.ex (kl b.lK)||Ro (kl a.lK) (kl b.lK)
def Tg (id:Nat) (a:It):Bool:=clT id a.lT&&clB id a.lB
def Us (a b:It):List Nat→Bool
 |[]=>true
 |id::r=>clX a id b.lT b.lB&&Us a b r
theorem Mn {a b:It}:∀{l:List Nat},Us a b l=true→∀id∈l,clX a id b.lT b.lB=true
 |[],_,id,h=>by cases h
 |x::r,h,id,hi=>by
  simp only[Us,At] at h
  rcases List.mem_cons.1 hi with rfl|hi
  ·exact h.1
  ·exact Mn h.2 id hi
def Ft (ids:List Nat) (a:It):Bool:=match ids with
 |[]=>true
 |id::r=>Tg id a&&Ft r a
def nO (ops:Array Oper) (ms:List Nat) (i:Nat) (oi:Oper) (a:It):Nat→List Oper→List It→Bool
 |_,[],_=>true
 |_,_,[]=>true
 |j,oj::r,b::s=>(!C1 ops oi a oj b||rch ms j i)&&(Ft b.cr a)&&(Ft a.cr b||rch ms j i)&&(Us b a b.ex)&&(Us a b a.ex||rch ms j i)&&nO ops ms i oi a (j+1) r s
def Kw (ops:Array Oper) (ms:List Nat):Nat→List Oper→List It→Bool
 |_,[],_=>true
 |_,_,[]=>true
 |i,oi::r,a::s=>nO ops ms i oi a (i+1) r s&&Kw ops ms (i+1) r s
def O2 (σ:AS):List It→Bool
 |[]=>true
 |it::r=>(it.cr.all fun id=>σ.clean id)&&(it.ex.all fun id=>clX it id σ.tm σ.bx)&&O2 σ r
def Z2 (l:List Oper) (its:List It) (σ:AS):Bool:=Kw l.toArray (Sq l []) 0 l its&&O2 σ its
theorem sJ {ops:Array Oper} {ms:List Nat} {i:Nat} {oi oj:Oper} {a b:It} (r:List Oper):∀(s:List It) (j m:Nat),nO ops ms i oi a j r s=true→r[m]?=some oj→s[m]?=some b→
 (C1 ops oi a oj b=true→rch ms (j+m) i=true)∧Ft b.cr a=true∧(Ft a.cr b=true∨rch ms (j+m) i=true)∧Us b a b.ex=true∧(Us a b a.ex=true∨rch ms (j+m) i=true):=by
 induction r with
 |nil=>intro s j m _ h1;simp at h1
 |cons o1 r ih=>
  intro s j m h h1 h2
  cases s with
  |nil=>simp at h2
  |cons b1 s=>
   simp only[nO,At,Bool.or_eq_true,Bool.not_eq_true'] at h
   obtain⟨⟨⟨⟨⟨k1,k2⟩,k3⟩,k5⟩,k6⟩,k4⟩:=h
   cases m with
   |zero=>
    simp only[List.getElem?_cons_zero,Option.some.injEq] at h1 h2
    subst h1 h2
    refine⟨fun hc=> ?_,k2,k3,k5,k6⟩
    rcases k1 with k1|k1
    ·rw[hc] at k1;cases k1
    ·exact k1
   |succ m=>
    have:=ih s (j+1) m k4 (by simpa using h1) (by simpa using h2)
    rw[show j+1+m=j+(m+1) by omega] at this
    exact this
theorem dI {ops:Array Oper} {ms:List Nat} {om on:Oper} {a b:It} (r:List Oper):∀(s:List It) (i m n:Nat),Kw ops ms i r s=true→m<n→r[m]?=some om→s[m]?=some a→r[n]?=some on→s[n]?=some b→
 (C1 ops om a on b=true→rch ms (i+n) (i+m)=true)∧Ft b.cr a=true∧(Ft a.cr b=true∨rch ms (i+n) (i+m)=true)∧Us b a b.ex=true∧(Us a b a.ex=true∨rch ms (i+n) (i+m)=true):=by
 induction r with
 |nil=>intro s i m n _ _ h1;simp at h1
 |cons o1 r ih=>
  intro s i m n h hmn h1 h2 h3 h4
  cases s with
  |nil=>simp at h2
  |cons b1 s=>
   simp only[Kw,At] at h
   obtain⟨k1,k2⟩:=h
   obtain⟨n,rfl⟩:∃n',n=n'+1:=⟨n-1,by omega⟩
   cases m with
   |zero=>
    simp only[List.getElem?_cons_zero,Option.some.injEq] at h1 h2
    subst h1 h2
    have:=sJ r s (i+1) n k1 (by simpa using h3) (by simpa using h4)
    rw[show i+1+n=i+(n+1) by omega] at this
    exact this
   |succ m=>
    have:=ih s (i+1) m n k2 (by omega) (by simpa using h1) (by simpa using h2) (by simpa using h3) (by simpa using h4)
    rw[show i+1+n=i+(n+1) by omega,show i+1+m=i+(m+1) by omega] at this
    exact this
theorem Cs {ops:Array Oper} {ms:List Nat} {r:List Oper} {s:List It} {i m n:Nat} {om on:Oper} {a b:It} (h:Kw ops ms i r s=true) (hmn:m<n) (h1:r[m]?=some om) (h2:s[m]?=some a) (h3:r[n]?=some on) (h4:s[n]?=some b):
 (C1 ops om a on b=true→rch ms (i+n) (i+m)=true)∧Ft b.cr a=true∧(Ft a.cr b=true∨rch ms (i+n) (i+m)=true)∧Us b a b.ex=true∧(Us a b a.ex=true∨rch ms (i+n) (i+m)=true):=dI r s i m n h hmn h1 h2 h3 h4
theorem Ij {ids:List Nat} {a:It} (h:Ft ids a=true):∀id∈ids,Tg id a=true:=by
 induction ids with
 |nil=>intro id hi;simp at hi
 |cons x r ih=>
  simp only[Ft,At] at h
  intro id hi
  rcases List.mem_cons.1 hi with rfl|hi
  ·exact h.1
  ·exact ih h.2 id hi
theorem O3 {σ:AS}:∀{its:List It},O2 σ its=true→∀it∈its,∀id∈it.cr,σ.clean id=true
 |[],_,it,h=>by simp at h
 |x::r,h,it,hi=>by
  simp only[O2,At] at h
  rcases List.mem_cons.1 hi with rfl|hi
  ·intro id hid;exact List.all_eq_true.1 h.1.1 id hid
  ·exact O3 h.2 it hi
theorem Rp {σ:AS}:∀{its:List It},O2 σ its=true→∀it∈its,∀id∈it.ex,clX it id σ.tm σ.bx=true
 |[],_,it,h=>by simp at h
 |x::r,h,it,hi=>by
  simp only[O2,At] at h
  rcases List.mem_cons.1 hi with rfl|hi
  ·intro id hid;exact List.all_eq_true.1 h.1.2 id hid
  ·exact Rp h.2 it hi
theorem nP {σ:AS} {id:Nat} {it a:It} (h1:clX it id σ.tm σ.bx=true) (h2:clX it id a.lT a.lB=true):clX it id (σ.add a).tm (σ.add a).bx=true:=by
 simp only[clX,At] at*
 rw[O1,Rm]
 exact⟨EM h2.1 h1.1,EN h2.2 h1.2⟩
theorem EP {id:Nat} {l m:List (Nat×AV)} (h1:clT id l=true) (h2:clT id m=true):clT id (l++m)=true:=by
 induction l with
 |nil=>exact h2
 |cons p r ih=>
  obtain⟨k,u⟩:=p
  simp only[clT,List.cons_append,At] at*
  exact⟨h1.1,ih h1.2⟩
theorem EQ {id:Nat} {l m:List (Nat×List AV)} (h1:clB id l=true) (h2:clB id m=true):clB id (l++m)=true:=by
 induction l with
 |nil=>exact h2
 |cons p r ih=>
  obtain⟨k,u⟩:=p
  simp only[clB,List.cons_append,At] at*
  exact⟨h1.1,ih h1.2⟩
theorem Yc {σ:AS} {id:Nat} {a:It} (h1:σ.clean id=true) (h2:Tg id a=true):(σ.add a).clean id=true:=by
 simp only[AS.clean,Tg,At] at*
 rw[O1,Rm]
 exact⟨EP h2.1 h1.1,EQ h2.2 h1.2⟩
theorem nQ {P:Program} {C:Cx} {ops:Array Oper} {l:List Oper} {its:List It} {σ:AS} (h:Scr P C ops l its σ):its.length=l.length:=by
 induction h with
 |nil=>rfl
 |cons h k ih=>simp[ih]
theorem nR {P:Program} {C:Cx} {ops:Array Oper} {l:List Oper} {its:List It} {σ:AS} (h:Scr P C ops l its σ):∀k o it,l[k]?=some o→its[k]?=some it→Oo P C ops o it (σ.addAll (its.take k)):=by
 induction h with
 |nil=>intro k o it h;simp at h
 |cons h k ih=>
  intro m o it ho hi
  cases m with
  |zero=>simp at ho hi;subst ho hi;exact h
  |succ m=>rw[List.take_succ_cons];exact ih m o it (by simpa using ho) (by simpa using hi)
structure Sim (l:List Oper) (its:List It) (σ0:AS) (d:Nat→Bool) (σ:AS):Prop where
 tm:∀t,lk t σ.tm=I6 It.lT t d 0 its (lk t σ0.tm)
 bx:∀t,lk t σ.bx=I6 It.lB t d 0 its (lk t σ0.bx)
 tk:∀t,lk t σ.tk=I6 It.lK t d 0 its (lk t σ0.tk)
 cl:∀(j:Nat) it,its[j]?=some it→d j=false→∀id∈it.cr,σ.clean id=true
 cx:∀(j:Nat) it,its[j]?=some it→d j=false→∀id∈it.ex,clX it id σ.tm σ.bx=true
 dep:∀(k:Nat) o,l[k]?=some o→d k=true→Fo o d
theorem G.same {C:Cx} {σ σ':AS} {a:Act} {w:World} (h:G C σ a w) (h1:∀t,lk t σ'.tm=lk t σ.tm) (h2:∀t,lk t σ'.bx=lk t σ.bx) (h3:∀t,lk t σ'.tk=lk t σ.tk):G C σ' a w:=
 h.weak ⟨fun t u hu=>⟨u,by rw[←h1 t];exact hu,.refl u⟩,fun k cs hk=>⟨cs,by rw[←h2 k];exact hk,AV.les_refl cs⟩,fun k x hk=>by rw[←h3 k];exact hk⟩
theorem jT {P:Program} {C:Cx} {Φ:Exit→AS→Prop} {id:Nat} {l:List Oper} {its:List It} {σ:AS} (hm:P.follows .mixedOrders=true) (ha:I0 l.toArray=true) (hs:Scr P C l.toArray l its σ) (hok:Z2 l its σ=true) (hf:Φ .normal (σ.addAll its)):
 C8 P C (.region id l.toArray true) Φ σ:=by
 intro a w hG
 have hlen:=nQ hs
 have hget:=nR hs
 simp only[Z2,At] at hok
 obtain⟨hpairs,hcl0⟩:=hok
 have hreach:∀d:Nat→Bool,(∀(m:Nat) o',l[m]?=some o'→d m=true→Fo o' d)→∀k j o,l[k]?=some o→Fo o d→rch (Sq l []) k j=true→d j=true:=fun d hcl k j o ho hd hr=>
  Ur d l [] l (by simp) (by simp) (fun k j hk=>by simp at hk) k j (Aw.1 ho).1 o ho hcl hd hr
 have hgetIt:∀(k:Nat) o,l[k]?=some o→∃it,its[k]?=some it:=fun k o ho=>⟨_,Am (by rw[hlen];exact(Aw.1 ho).1)⟩
 have hgetO:∀(k:Nat) it,its[k]?=some it→∃o,l[k]?=some o:=fun k it hi=>⟨_,Am (by rw[←hlen];exact(Aw.1 hi).1)⟩
 refine Js hm ha (fun d a w=>∃σ',G C σ' a w∧Sim l its σ d σ') ⟨σ,?_,?_⟩ ?_ ?_
 ·obtain⟨bm,gt,fp,hg⟩:=hG
  exact⟨bm,gt,fp,hg.grow (Below.drew (Below.refl _ _))⟩
 ·refine⟨fun t=>(Fz _ _ _ fun _ _ _ _=>rfl).symm,fun t=>(Fz _ _ _ fun _ _ _ _=>rfl).symm,fun t=>(Fz _ _ _ fun _ _ _ _=>rfl).symm,fun j it hi _ id hid=>O3 hcl0 it (A8 hi) id hid,fun j it hi _ id hid=>Rp hcl0 it (A8 hi) id hid,fun k o _ h=>by cases h⟩
 ·
  have step:∀(k:Nat) o it,l[k]?=some o→its[k]?=some it→∀d a w,d k=false→Fo o d→(∃σ',G C σ' a w∧Sim l its σ d σ')→wpList P l.toArray (Exit.then (fun a w=>∃σ',G C σ' a w∧Sim l its σ (A3 d k) σ') (Um C Φ)) [o] a w:=by
   rintro k o it ho hi d a w hdk hdep ⟨σ',hG',hsim⟩
   have R:=hreach d hsim.dep
   have key:∀(t:Nat) {β:Type} (sel:It→List (Nat×β)),(∀(m:Nat) om itm,l[m]?=some om→its[m]?=some itm→wrs sel t itm=true→(m<k→C1 l.toArray om itm o it=true)∧(k<m→C1 l.toArray o it om itm=true))→∀(m:Nat) itm,its[m]?=some itm→wrs sel t itm=true→d m=decide (m<k):=by
    intro t β sel hcl m itm hm hw
    obtain⟨om,hom⟩:=hgetO m itm hm
    obtain⟨c1,c2⟩:=hcl m om itm hom hm hw
    rcases Nat.lt_trichotomy m k with hlt|heq|hgt
    ·have:=(Cs hpairs hlt hom hm ho hi).1 (c1 hlt)
     rw[Nat.zero_add,Nat.zero_add] at this
     rw[R k m o ho hdep this];simp[hlt]
    ·subst heq;rw[hdk];simp
    ·have:=(Cs hpairs hgt ho hi hom hm).1 (c2 hgt)
     rw[Nat.zero_add,Nat.zero_add] at this
     cases hdm:d m with
     |false=>simp;omega
     |true=>exact absurd (R m k om hom (hsim.dep m om hom hdm) this) (by rw[hdk];simp)
   have wrT:∀{t:Nat} {itm:It},wrs It.lT t itm=true→t∈kl itm.lT:=fun hw=>by obtain⟨u,hu⟩:=G4.1 hw;exact P7 hu
   have wrB:∀{t:Nat} {itm:It},wrs It.lB t itm=true→t∈kl itm.lB:=fun hw=>by obtain⟨u,hu⟩:=G4.1 hw;exact P7 hu
   have wrK:∀{t:Nat} {itm:It},wrs It.lK t itm=true→t∈kl itm.lK:=fun hw=>by obtain⟨u,hu⟩:=G4.1 hw;exact P7 hu
   have hstep:=hget k o it ho hi
   refine hstep σ' (fun t ht=> ?_) ⟨fun b hb=> ?_,fun t ht=> ?_,fun b hb=> ?_,fun t ht=> ?_,hsim.cx k it hi hdk⟩ (hsim.cl k it hi hdk) a w hG' _ _ fun a' w' hG2=>⟨σ'.add it,hG2,?_⟩
   ·rw[hsim.tm,Hp]
    exact Bu _ _ _ fun m itm hm hw=>by
     rw[Nat.zero_add]
     exact key t It.lT (fun m om itm _ _ hw=>⟨fun _=>by simp only[C1,Br (wrT hw) ht,Bool.true_or],fun _=>by simp only[C1,Br ht (wrT hw),Bool.true_or,Bool.or_true]⟩) m itm hm hw
   ·rw[hsim.bx,Hq]
    exact Bu _ _ _ fun m itm hm hw=>by
     rw[Nat.zero_add]
     exact key b It.lB (fun m om itm _ _ hw=>⟨fun _=>by simp only[C1,Br (wrB hw) hb,Bool.true_or,Bool.or_true],fun _=>by simp only[C1,Br hb (wrB hw),Bool.true_or,Bool.or_true]⟩) m itm hm hw
   ·rw[hsim.tm,Hp]
    exact Bu _ _ _ fun m itm hm hw=>by
     rw[Nat.zero_add]
     exact key t It.lT (fun m om itm _ _ hw=>⟨fun _=>by simp only[C1,Br (wrT hw) ht,Bool.true_or,Bool.or_true],fun _=>by simp only[C1,Br ht (wrT hw),Bool.true_or,Bool.or_true]⟩) m itm hm hw
   ·rw[hsim.bx,Hq]
    exact Bu _ _ _ fun m itm hm hw=>by
     rw[Nat.zero_add]
     exact key b It.lB (fun m om itm _ _ hw=>⟨fun _=>by simp only[C1,Br (wrB hw) hb,Bool.true_or,Bool.or_true],fun _=>by simp only[C1,Br hb (wrB hw),Bool.true_or,Bool.or_true]⟩) m itm hm hw
   ·rw[hsim.tk,Lo]
    exact Bu _ _ _ fun m itm hm hw=>by
     rw[Nat.zero_add]
     exact key t It.lK (fun m om itm _ _ hw=>⟨fun _=>by simp only[C1,Br (wrK hw) ht,Bool.true_or,Bool.or_true],fun _=>by simp only[C1,Br ht (wrK hw),Bool.true_or,Bool.or_true]⟩) m itm hm hw
   ·
    have upd:∀{β:Type} (sel:It→List (Nat×β)) (log log0:List (Nat×β)) (t:Nat),(∀t,lk t log=I6 sel t d 0 its (lk t log0))→(∀t,wrs sel t it=true→∀(m:Nat) itm,its[m]?=some itm→wrs sel t itm=true→d m=decide (m<k))→lk t (sel it++log)=I6 sel t (A3 d k) 0 its (lk t log0):=by
     intro β sel log log0 t hlog hkey
     rw[Kv]
     by_cases hw:wrs sel t it=true
     ·obtain⟨u,hu⟩:=G4.1 hw
      rw[hu]
      refine(Rn its 0 _ k it hi hu (by rw[Nat.zero_add,Ev]) fun i it' hki hit hw'=> ?_).symm
      rw[Nat.zero_add,Ea _ _ _ (by omega),hkey t hw i it' hit hw']
      simp;omega
     ·rw[wO hw,hlog]
      refine Bu _ _ _ fun m itm hm hwm=> ?_
      rw[Nat.zero_add,Ea]
      intro e;subst e
      rw[hi] at hm;cases hm
      exact hw hwm
    refine⟨fun t=> ?_,fun t=> ?_,fun t=> ?_,fun j itj hj hdj id hid=> ?_,fun j itj hj hdj id hid=> ?_,fun m om hom hdm=> ?_⟩
    ·rw[O1];exact upd It.lT σ'.tm σ.tm t hsim.tm fun t hw=>key t It.lT fun m om itm _ _ hwm=>⟨fun _=>by simp only[C1,Br (wrT hwm) (wrT hw),Bool.true_or,Bool.or_true],fun _=>by simp only[C1,Br (wrT hw) (wrT hwm),Bool.true_or,Bool.or_true]⟩
    ·rw[Rm];exact upd It.lB σ'.bx σ.bx t hsim.bx fun t hw=>key t It.lB fun m om itm _ _ hwm=>⟨fun _=>by simp only[C1,Br (wrB hwm) (wrB hw),Bool.true_or,Bool.or_true],fun _=>by simp only[C1,Br (wrB hw) (wrB hwm),Bool.true_or,Bool.or_true]⟩
    ·rw[jR];exact upd It.lK σ'.tk σ.tk t hsim.tk fun t hw=>key t It.lK fun m om itm _ _ hwm=>⟨fun _=>by simp only[C1,Br (wrK hwm) (wrK hw),Bool.or_true],fun _=>by simp only[C1,Br (wrK hw) (wrK hwm),Bool.or_true]⟩
    ·have hjk:j≠k:=fun e=>by subst e;rw[Ev] at hdj;cases hdj
     rw[Ea _ _ _ hjk] at hdj
     refine Yc (hsim.cl j itj hj hdj id hid) ?_
     obtain⟨oj,hoj⟩:=hgetO j itj hj
     rcases Nat.lt_or_gt_of_ne hjk with hlt|hgt
     ·have:=(Cs hpairs hlt hoj hj ho hi).2.2.1
      rw[Nat.zero_add,Nat.zero_add] at this
      rcases this with h|h
      ·exact Ij h id hid
      ·exact absurd (R k j o ho hdep h) (by rw[hdj];simp)
     ·exact Ij (Cs hpairs hgt ho hi hoj hj).2.1 id hid
    ·have hjk:j≠k:=fun e=>by subst e;rw[Ev] at hdj;cases hdj
     rw[Ea _ _ _ hjk] at hdj
     refine nP (hsim.cx j itj hj hdj id hid) ?_
     obtain⟨oj,hoj⟩:=hgetO j itj hj
     rcases Nat.lt_or_gt_of_ne hjk with hlt|hgt
     ·have:=(Cs hpairs hlt hoj hj ho hi).2.2.2.2
      rw[Nat.zero_add,Nat.zero_add] at this
      rcases this with h|h
      ·exact Mn h id hid
      ·exact absurd (R k j o ho hdep h) (by rw[hdj];simp)
     ·exact Mn (Cs hpairs hgt ho hi hoj hj).2.2.2.1 id hid
    ·by_cases hmk:m=k
     ·subst hmk
      rw[ho] at hom;cases hom
      intro e he hb
      by_cases hek:e.on=m
      ·rw[hek,Ev]
      ·rw[Ea _ _ _ hek];exact hdep e he hb
     ·rw[Ea _ _ _ hmk] at hdm
      intro e he hb
      by_cases hek:e.on=k
      ·rw[hek,Ev]
      ·rw[Ea _ _ _ hek];exact hsim.dep m om hom hdm e he hb
  have all:∀(r:List Oper) (k:Nat),(∀(i:Nat) o,r[i]?=some o→l[k+i]?=some o)→Nl P l.toArray (Um C Φ) (fun d a w=>∃σ',G C σ' a w∧Sim l its σ d σ') k r:=by
   intro r
   induction r with
   |nil=>intro k _;trivial
   |cons o r ih=>
    intro k hr
    have ho:=hr 0 o rfl
    rw[Nat.add_zero] at ho
    obtain⟨it,hi⟩:=hgetIt k o ho
    exact⟨fun d a w hd hdep hJ=>step k o it ho hi d a w hd hdep hJ,ih (k+1) fun i o' hi'=>by rw[show k+1+i=k+(i+1) by omega];exact hr (i+1) o' (by simpa using hi')⟩
  exact all l 0 fun i o h=>by rw[Nat.zero_add];exact h
 ·rintro a w ⟨σ',hG',hsim⟩
  refine⟨_,hf,hG'.same (fun t=> ?_) (fun t=> ?_) (fun t=> ?_)⟩
  ·rw[hsim.tm]
   have h1:=Hp its σ t its.length
   rw[List.take_length] at h1
   rw[h1]
   exact Bu _ _ _ fun m itm hm _=>by simp[hlen]
  ·rw[hsim.bx]
   have h1:=Hq its σ t its.length
   rw[List.take_length] at h1
   rw[h1]
   exact Bu _ _ _ fun m itm hm _=>by simp[hlen]
  ·rw[hsim.tk]
   have h1:=Lo its σ t its.length
   rw[List.take_length] at h1
   rw[h1]
   exact Bu _ _ _ fun m itm hm _=>by simp[hlen]
theorem tr {o:Oper} {σ σ':AS} {x:Operand} {u:AV} (hT:AgT o σ' σ) (hm:x∈o.op.operands.toList) (h:σ.eval x=some u):σ'.eval x=some u:=(hT x hm).trans h
theorem trL {o:Oper} {σ σ':AS} (hT:AgT o σ' σ):∀{l:List Operand},(∀x∈l,x∈o.op.operands.toList)→evL σ' l=evL σ l
 |[],_=>rfl
 |x::r,h=>by
  unfold evL
  rw[hT x (h x List.mem_cons_self),trL hT fun y hy=>h y (List.mem_cons_of_mem _ hy)]
theorem trP {o:Oper} {σ σ':AS} (hT:AgT o σ' σ):∀{l:List (Nat×Operand)},(∀p∈l,p.2∈o.op.operands.toList)→evP σ' l=evP σ l
 |[],_=>rfl
 |(i,x)::r,h=>by
  unfold evP
  rw[hT x (h (i,x) List.mem_cons_self),trP hT fun y hy=>h y (List.mem_cons_of_mem _ hy)]
theorem trB {o:Oper} {σ σ':AS} {x:Option Operand} {d lo:Nat} (hT:AgT o σ' σ) (hm:∀y,x=some y→y∈o.op.operands.toList) (h:Bnd σ x d lo):Bnd σ' x d lo:=by
 cases x with
 |none=>exact h
 |some x=>obtain⟨k,z,h1,h2⟩:=h;exact⟨k,z,tr hT (hm x rfl) h1,h2⟩
section
variable {P:Program} {C:Cx} {ops:Array Oper} {o:Oper} {σ:AS} {t:Nat}
theorem jU {it:It} {j:Nat} {b c:Bool} {oj:Oper} {s:Nat} (hg:o.guard=some (j,b)) (hj:ops[j]?=some oj) (hd:oj.dst=some s) (hb:lk s σ.tm=some (.d (.v (.bool c)))) (hN0:s<1000000) (hc:c=b) (h:LA P C o it σ):Oo P C ops o it σ:=by subst hc;exact sF hg hj hd hb hN0 h
theorem ER {x:Operand} {u:AV} (ho:o.op= .move x) (hd:o.dst=some t) (ht:t<C.N) (hx:σ.eval x=some u):LA P C o ⟨[],some (t,u),none,none,[],[],[],[]⟩ σ:=fun _ hT _ _=>rU ho hd ht (tr hT (by rw[ho];simp[Op.operands]) hx)
theorem sK {x:Operand} {u:AV} (ho:o.op= .assign x) (hd:o.dst=some t) (ht:t<C.N) (hx:σ.eval x=some u):LA P C o ⟨[],some (t,u),none,none,[],[],[],[]⟩ σ:=fun _ hT _ _=>cX ho hd ht (tr hT (by rw[ho];simp[Op.operands]) hx)
theorem nS {c x y:Operand} {b b':Bool} {u:AV} (ho:o.op= .pick c x y) (hd:o.dst=some t) (ht:t<C.N) (hc:σ.eval c=some (.d (.v (.bool b')))) (hb:b'=b) (hx:σ.eval (bif b then x else y)=some u):LA P C o ⟨[],some (t,u),none,none,[],[],[],[]⟩ σ:=fun _ hT _ _=>by
 subst hb
 exact rV ho hd ht (tr hT (by rw[ho];simp[Op.operands]) hc) (tr hT (by rw[ho];cases b'<;>simp[Op.operands]) hx)
theorem KK {xt:TypeId} {x:Operand} {b:Bool} (ho:o.op= .unOp .not xt x) (hd:o.dst=some t) (ht:t<C.N) (hx:σ.eval x=some (.d (.v (.bool b)))):LA P C o ⟨[],some (t,.d (.v (.bool !b))),none,none,[],[],[],[]⟩ σ:=fun _ hT _ _=>wE ho hd ht (tr hT (by rw[ho];simp[Op.operands]) hx)
theorem KM {op:BinOp} {xt yt:TypeId} {x y:Operand} {p q z:Value} (ho:o.op= .binOp op xt x y yt) (hd:o.dst=some t) (ht:t<C.N) (hx:σ.eval x=some (.d (.v p))) (hy:σ.eval y=some (.d (.v q))) (hz:∀w,(do eqGuard op xt x y p q;binOp op xt p q:Sem Value).run P w= .ok z w):LA P C o ⟨[],some (t,.d (.v z)),none,none,[],[],[],[]⟩ σ:=fun _ hT _ _=>
 wD ho hd ht (tr hT (by rw[ho];simp[Op.operands]) hx) (tr hT (by rw[ho];simp[Op.operands]) hy) hz
theorem ES {src dst:TypeId} {x:Operand} {k k0:IntKind} {d:TypeDesc} {m z:Int} (ho:o.op= .convert src dst x) (hd:o.dst=some t) (ht:t<C.N) (hs:P.underlying src=some d) (hu:P.underlying dst=some (.int k)) (hx:σ.eval x=some (.d (.v (.int k0 m)))) (hz:k.wrap m=z):LA P C o ⟨[],some (t,.d (.v (.int k z))),none,none,[],[],[],[]⟩ σ:=fun _ hT _ _=>
 X7 ho hd ht hs hu (tr hT (by rw[ho];simp[Op.operands]) hx) hz
theorem jV {x:Operand} {i:Nat} {us:List AV} {u:AV} (ho:o.op= .extract x i) (hd:o.dst=some t) (ht:t<C.N) (hx:σ.eval x=some (.tup us)) (hi:us[i]?=some u):LA P C o ⟨[],some (t,u),none,none,[],[],[],[]⟩ σ:=fun _ hT _ _=>Zy ho hd ht (tr hT (by rw[ho];simp[Op.operands]) hx) hi
theorem Z3 {ty:TypeId} {d:TypeDesc} {z:Value} {sz by':Nat} {x:Operand} {k off:Nat} {cs:List AV} {u:AV} (ho:o.op= .load ty x) (hd:o.dst=some t) (ht:t<C.N) (hx:σ.eval x=some (.ptr k off)) (hk:lk k σ.bx=some cs) (hT':TyOk P ty d z sz by') (hD:Jm d=false) (hu:cs[off]?=some u):LA P C o ⟨[k],some (t,u),none,none,[],[],[],[]⟩ σ:=fun _ hT hB _=>
 X8 ho hd ht (tr hT (by rw[ho];simp[Op.operands]) hx) ((hB.rb k (by simp)).trans hk) hT' hD hu
theorem wP {ty:TypeId} {d:TypeDesc} {z:Value} {sz by':Nat} {x:Operand} {k off:Nat} {cs us:List AV} (ho:o.op= .load ty x) (hd:o.dst=some t) (ht:t<C.N) (hx:σ.eval x=some (.ptr k off)) (hk:lk k σ.bx=some cs) (hT':TyOk P ty d z sz by') (hD:Jm d=true) (hu:(cs.drop off).take sz=us) (hl:us.length=sz):LA P C o ⟨[k],some (t,.agg us),none,none,[],[],[],[]⟩ σ:=fun _ hT hB _=>
 jE ho hd ht (tr hT (by rw[ho];simp[Op.operands]) hx) ((hB.rb k (by simp)).trans hk) hT' hD hu hl
theorem dJ {ty:TypeId} {d:TypeDesc} {z:Value} {sz by':Nat} {x:Operand} {tg:Bool} {ds:List D} {u:D} (ho:o.op= .load ty x) (hd:o.dst=some t) (ht:t<C.N) (hx:σ.eval x=some (.d (.cp tg ds))) (hT':TyOk P ty d z sz by') (hD:Jm d=false) (hu:ds[0]?=some u):LA P C o ⟨[],some (t,.d u),none,none,[],[],[],[]⟩ σ:=fun _ hT _ _=>
 jF ho hd ht (tr hT (by rw[ho];simp[Op.operands]) hx) hT' hD hu
theorem sL {ty:TypeId} {d:TypeDesc} {z:Value} {sz by':Nat} {x:Operand} {tg:Bool} {ds:List D} {us:List AV} (ho:o.op= .load ty x) (hd:o.dst=some t) (ht:t<C.N) (hx:σ.eval x=some (.d (.cp tg ds))) (hT':TyOk P ty d z sz by') (hD:Jm d=true) (hl:ds.length=sz) (hu:ds.map AV.d=us):LA P C o ⟨[],some (t,.agg us),none,none,[],[],[],[]⟩ σ:=fun _ hT _ _=>
 cY ho hd ht (tr hT (by rw[ho];simp[Op.operands]) hx) hT' hD hl hu
theorem wQ {ty:TypeId} {d:TypeDesc} {z:Value} {sz by':Nat} {x y:Operand} {k off:Nat} {cs:List AV} {u:AV} (ho:o.op= .store ty x y) (hd:o.dst=none) (hx:σ.eval x=some (.ptr k off)) (hk:lk k σ.bx=some cs) (hy:σ.eval y=some u) (hT':TyOk P ty d z sz by') (hf:u.flat=true) (hl:u.cells.length=sz) (hb:off+sz≤cs.length):
 LA P C o ⟨[k],none,some (k,Fr cs off u.cells),none,[],[],[],[]⟩ σ:=fun _ hT hB _=>
 Uo ho hd (tr hT (by rw[ho];simp[Op.operands]) hx) ((hB.rb k (by simp)).trans hk) (tr hT (by rw[ho];simp[Op.operands]) hy) hT' hf hl hb
theorem wR {ty:TypeId} {d:TypeDesc} {z:Value} {sz by':Nat} {zs:List AV} {κ:Nat} (ho:o.op= .alloc ty) (hd:o.dst=some t) (ht:t<C.N) (hT':TyOk P ty d z sz by') (hz:z.cells.toList.map (fun x=>AV.d (.v x))=zs):LA P C o ⟨[],some (t,.ptr κ 0),some (κ,zs),none,[κ],[],[],[]⟩ σ:=fun _ _ _ hc=>
 jG ho hd ht hT' hz (hc κ (by simp))
theorem KN {ty:TypeId} {d:TypeDesc} {z:Value} {sz by':Nat} {x:Operand} {u:AV} {κ:Nat} (ho:o.op= .box ty x) (hd:o.dst=some t) (ht:t<C.N) (hx:σ.eval x=some u) (hT':TyOk P ty d z sz by') (hf:u.flat=true) (hcu:u.clean κ=true):LA P C o ⟨[],some (t,.ptr κ 0),some (κ,u.cells),none,[κ],[],[],[]⟩ σ:=fun _ hT _ hc=>
 wF ho hd ht (tr hT (by rw[ho];simp[Op.operands]) hx) hT' hf (hc κ (by simp)) hcu
theorem Z4 {ty:TypeId} {i off sz:Nat} {ag:Bool} {x:Operand} {k p:Nat} (ho:o.op= .fieldAddr ty x i) (hd:o.dst=some t) (ht:t<C.N) (hF:FldOk P ty i off sz ag) (h0:0<sz) (hx:σ.eval x=some (.ptr k p)):LA P C o ⟨[],some (t,.ptr k (p+off)),none,none,[],[],[],[]⟩ σ:=fun _ hT _ _=>
 Up ho hd ht hF h0 (tr hT (by rw[ho];simp[Op.operands]) hx)
theorem Xm {ty:TypeId} {i off sz:Nat} {ag tg:Bool} {x:Operand} {ds ds':List D} (ho:o.op= .fieldAddr ty x i) (hd:o.dst=some t) (ht:t<C.N) (hF:FldOk P ty i off sz ag) (h0:0<sz) (hx:σ.eval x=some (.d (.cp tg ds))) (hds:(ds.drop off).take sz=ds'):LA P C o ⟨[],some (t,.d (.cp tg ds')),none,none,[],[],[],[]⟩ σ:=fun _ hT _ _=>
 S7 ho hd ht hF h0 (tr hT (by rw[ho];simp[Op.operands]) hx) hds
theorem wS {ty:TypeId} {i off sz:Nat} {x:Operand} {us:List AV} {u:AV} (ho:o.op= .field ty x i) (hd:o.dst=some t) (ht:t<C.N) (hF:FldOk P ty i off sz false) (hx:σ.eval x=some (.agg us)) (hu:us[off]?=some u):LA P C o ⟨[],some (t,u),none,none,[],[],[],[]⟩ σ:=fun _ hT _ _=>
 jH ho hd ht hF (tr hT (by rw[ho];simp[Op.operands]) hx) hu
theorem sM {ty:TypeId} {i off sz:Nat} {x:Operand} {us us':List AV} (ho:o.op= .field ty x i) (hd:o.dst=some t) (ht:t<C.N) (hF:FldOk P ty i off sz true) (hx:σ.eval x=some (.agg us)) (hu:(us.drop off).take sz=us'):LA P C o ⟨[],some (t,.agg us'),none,none,[],[],[],[]⟩ σ:=fun _ hT _ _=>
 cZ ho hd ht hF (tr hT (by rw[ho];simp[Op.operands]) hx) hu
theorem wT {ty:TypeId} {ps:Array (Nat×Operand)} {pl:List (Nat×Nat)} {d:TypeDesc} {z:Value} {sz by':Nat} {us:List (Nat×AV)} {zs cs:List AV} (ho:o.op= .build ty ps) (hd:o.dst=some t) (ht:t<C.N) (hT':TyOk P ty d z sz by') (hS:StrOk P ty pl) (hz:z.cells.toList.map (fun x=>AV.d (.v x))=zs) (hp:evP σ ps.toList=some us) (hf:Ml (fun i:Nat=>pl[i]?) zs us=some cs):
 LA P C o ⟨[],some (t,.agg cs),none,none,[],[],[],[]⟩ σ:=fun _ hT _ _=>
 jQ ho hd ht hT' hS hz ((trP hT fun p hp=>by rw[ho];simp only[Op.operands];simpa using⟨p.1,by simpa using hp⟩).trans hp) hf
theorem ET {st e:TypeId} {n:Nat} {ps:Array (Nat×Operand)} {d:TypeDesc} {z zS:Value} {sz by' s2 b2:Nat} {us:List (Nat×AV)} {cs:List AV} {ds:List D} {κ:Nat} (ho:o.op= .buildSlice st n ps) (hd:o.dst=some t) (ht:t<C.N) (hT':TyOk P st (.slice e) zS s2 b2) (hE:TyOk P e d z sz by') (hp:evP σ ps.toList=some us) (hf:Ml (fun i=>some (i*sz,sz)) ((List.range (n*sz)).map fun i=>AV.d (.v (z.cells[i%z.cells.size]!))) us=some cs) (hds:Ew cs=some ds) (hone:Mh cs=true) (hn:n*sz≤1000) (hn2:n≤1000):
 LA P C o ⟨[],some (t,.own κ n sz e ds),none,some (κ,n,sz,e),[κ],[],[],[]⟩ σ:=fun _ hT _ hc=>
 Yb ho hd ht hT' hE ((trP hT fun p hp=>by rw[ho];simp only[Op.operands];simpa using⟨p.1,by simpa using hp⟩).trans hp) hf hds hone hn hn2 (hc κ (by simp))
theorem wU {st e:TypeId} {sz by' n i:Nat} {x y:Operand} {k:IntKind} {iv:Int} {tg:Bool} {cs cs':List D} {d:TypeDesc} {z:Value} {ux:AV} (ho:o.op= .indexAddr st x y) (hd:o.dst=some t) (ht:t<C.N) (hT':P.underlying st=some (.slice e)) (hE:TyOk P e d z sz by') (hx:σ.eval x=some ux) (hux:ux.asSlT sz=some (tg,n,cs)) (hy:σ.eval y=some (.d (.v (.int k iv)))) (hi:iv=(i:Int)) (hlt:i<n) (hpos:0<sz) (hcs:(cs.drop (i*sz)).take sz=cs'):
 LA P C o ⟨[],some (t,.d (.cp tg cs')),none,none,[],[],[],[]⟩ σ:=fun _ hT _ _=>
 wG ho hd ht hT' hE (tr hT (by rw[ho];simp[Op.operands]) hx) hux (tr hT (by rw[ho];simp[Op.operands]) hy) hi hlt hpos hcs
theorem EU {st:TypeId} {i:Nat} {x y:Operand} {k:IntKind} {iv:Int} {l:List UInt8} {b:UInt8} (ho:o.op= .index st x y) (hd:o.dst=some t) (ht:t<C.N) (hT':P.underlying st=some .string) (hx:σ.eval x=some (.d (.v (.string ⟨l.toArray⟩)))) (hy:σ.eval y=some (.d (.v (.int k iv)))) (hi:iv=(i:Int)) (hb:l[i]?=some b):LA P C o ⟨[],some (t,.d (.v (.int .u8 b.toNat))),none,none,[],[],[],[]⟩ σ:=fun _ hT _ _=>
 rW ho hd ht hT' (tr hT (by rw[ho];simp[Op.operands]) hx) (tr hT (by rw[ho];simp[Op.operands]) hy) hi hb
theorem wV {st e:TypeId} {sz by' n lo hi mx:Nat} {x:Operand} {ol oh om:Option Operand} {tg:Bool} {cs cs':List D} {d:TypeDesc} {z:Value} {ux:AV} (ho:o.op= .slice st x ol oh om) (hd:o.dst=some t) (ht:t<C.N) (hT':P.underlying st=some (.slice e)) (hE:TyOk P e d z sz by') (hx:σ.eval x=some ux) (hux:ux.asSlT sz=some (tg,n,cs)) (hl:Bnd σ ol 0 lo) (hh:Bnd σ oh n hi)
 (hm:Bnd σ om n mx) (hoo:oh=none→om=none) (h1:lo≤hi) (h2:hi≤mx) (h3:mx≤n) (hcs:(cs.drop (lo*sz)).take ((hi-lo)*sz)=cs'):LA P C o ⟨[],some (t,.d (.sl tg (hi-lo) sz cs')),none,none,[],[],[],[]⟩ σ:=fun _ hT _ _=>
 jJ ho hd ht hT' hE (tr hT (by rw[ho];simp[Op.operands]) hx) hux (trB hT (fun y e=>by rw[ho,e];simp[Op.operands]) hl) (trB hT (fun y e=>by rw[ho,e];simp[Op.operands]) hh) (by
  have:=trB hT (fun y e=>by rw[ho,e];simp[Op.operands]) hm
  cases om with
  |none=>exact this
  |some y=>exact this) hoo h1 h2 h3 hcs
theorem KO {st e:TypeId} {sz n:Nat} {x:Operand} {tg:Bool} {cs:List D} {ux:AV} (ho:o.op= .call {callee:= .builtin .len,args:=#[x],argTypes:=#[st]}) (hd:o.dst=some t) (ht:t<C.N) (hT':P.underlying st=some (.slice e)) (hx:σ.eval x=some ux) (hux:ux.asSlT sz=some (tg,n,cs)):LA P C o ⟨[],some (t,.d (.v (.int .i64 n))),none,none,[],[],[],[]⟩ σ:=fun _ hT _ _=>
 I5 ho hd ht hT' (tr hT (by rw[ho];simp[Op.operands,Call.operands]) hx) hux
theorem EV {st:TypeId} {x:Operand} {l:List UInt8} (ho:o.op= .call {callee:= .builtin .len,args:=#[x],argTypes:=#[st]}) (hd:o.dst=some t) (ht:t<C.N) (hT':P.underlying st=some .string) (hx:σ.eval x=some (.d (.v (.string ⟨l.toArray⟩)))):LA P C o ⟨[],some (t,.d (.v (.int .i64 l.length))),none,none,[],[],[],[]⟩ σ:=fun _ hT _ _=>
 rX ho hd ht hT' (tr hT (by rw[ho];simp[Op.operands,Call.operands]) hx)
theorem KP {src dst e:TypeId} {x:Operand} {tg:Bool} {n:Nat} {cs:List D} {l:List UInt8} {ux:AV} (ho:o.op= .convert src dst x) (hd:o.dst=some t) (ht:t<C.N) (hs:P.underlying src=some (.slice e)) (he:P.underlying e=some (.int .u8)) (hu:P.underlying dst=some .string) (hx:σ.eval x=some ux) (hux:ux.asSlT 1=some (tg,n,cs)) (hl:cs=Ak l):
 LA P C o ⟨[],some (t,.d (.v (.string ⟨l.toArray⟩))),none,none,[],[],[],[]⟩ σ:=fun _ hT _ _=>
 wH ho hd ht hs he hu (tr hT (by rw[ho];simp[Op.operands]) hx) hux hl
theorem Z5 (σ:AS) (t κ:Nat) (r:AV):σ.res t κ r=σ.add ⟨[],some (t,r.ren κ),none,r.tok.map fun x=>(κ,x),[κ],[],[],[]⟩:=by
 unfold AS.res AS.add
 cases r.tok<;>rfl
theorem EW {f:FuncId} {args:Array Operand} {ats:Array TypeId} {us fs:List AV} {r:AV} {κ:Nat} (ho:o.op= .call {callee:= .value (.func f),args:=args,argTypes:=ats}) (hd:o.dst=some t) (ht:t<C.N) (hu:evL σ args.toList=some us) (hn:AV.noPtrs us=true) (hgv:AV.gives us=fs) (hcall:Ab P f fs (fun r'=>r'=r)):
 LA P C o ⟨[],some (t,r.ren κ),none,r.tok.map fun x=>(κ,x),[κ],[],[],[]⟩ σ:=fun σ' hT _ hc a w hG K Q hK=>by
 refine Ya ho hd ht (hc κ (by simp)) ((trL hT fun x hx=>by rw[ho];simp only[Op.operands,Call.operands];simp;right;simpa using hx).trans hu) hn hgv hcall a w hG K Q ?_
 rintro σ2 a' w' ⟨r',rfl,rfl⟩ hG'
 rw[Z5] at hG'
 exact hK a' w' hG'
theorem wW {f:FuncId} {s:Nat} {caps:List D} {args:Array Operand} {ats:Array TypeId} {us fs:List AV} {r:AV} {κ:Nat} (ho:o.op= .call {callee:= .value (.tmp s),args:=args,argTypes:=ats}) (hd:o.dst=some t) (ht:t<C.N) (hf:σ.eval (.tmp s)=some (.d (.fn f caps))) (hu:evL σ args.toList=some us) (hn:AV.noPtrs us=true) (hgv:AV.gives us++AV.gives (caps.map AV.d)=fs) (hcall:Ab P f fs (fun r'=>r'=r)):
 LA P C o ⟨[],some (t,r.ren κ),none,r.tok.map fun x=>(κ,x),[κ],[],[],[]⟩ σ:=fun σ' hT _ hc a w hG K Q hK=>by
 refine jL ho hd ht (hc κ (by simp)) (tr hT (by rw[ho];simp[Op.operands,Call.operands]) hf) ((trL hT fun x hx=>by rw[ho];simp only[Op.operands,Call.operands];simp;right;simpa using hx).trans hu) hn hgv hcall a w hG K Q ?_
 rintro σ2 a' w' ⟨r',rfl,rfl⟩ hG'
 rw[Z5] at hG'
 exact hK a' w' hG'
def drT (k:Nat) (all:List (Nat×AV)):List (Nat×AV)→List (Nat×AV)
 |[]=>[]
 |(j,u)::r=>bif u.clean k then drT k all r else(j,((lk j all).getD u).share k)::drT k all r
def drB (k:Nat) (all:List (Nat×List AV)):List (Nat×List AV)→List (Nat×List AV)
 |[]=>[]
 |(j,u)::r=>bif AV.cleans k u then drB k all r else(j,AV.shares k ((lk j all).getD u))::drB k all r
theorem wX {k j:Nat} {all:List (Nat×AV)} {v:AV}:∀{l:List (Nat×AV)},(∀i∈kl l,∃u,lk i all=some u)→lk j (drT k all l)=some v→∃u,lk j all=some u∧v=u.share k
 |[],_,h=>by cases h
 |(i,u)::r,hl,h=>by
  have ih:=wX (k:=k) (j:=j) (v:=v) (l:=r) (fun i hi=>hl i (List.mem_cons_of_mem _ hi))
  simp only[drT] at h
  cases hc:u.clean k with
  |true=>rw[hc] at h;exact ih h
  |false=>
   rw[hc] at h
   simp only[cond_false,lk] at h
   cases hb:Nat.beq i j with
   |true=>
    rw[hb] at h
    obtain rfl:=Nat.eq_of_beq_eq_true hb
    obtain⟨u',hu⟩:=hl i (by simp[kl])
    rw[hu] at h
    exact⟨u',hu,(Option.some.inj h).symm⟩
   |false=>rw[hb] at h;exact ih h
theorem wY {k j:Nat} {all:List (Nat×List AV)} {v:List AV}:∀{l:List (Nat×List AV)},(∀i∈kl l,∃u,lk i all=some u)→lk j (drB k all l)=some v→∃u,lk j all=some u∧v=AV.shares k u
 |[],_,h=>by cases h
 |(i,u)::r,hl,h=>by
  have ih:=wY (k:=k) (j:=j) (v:=v) (l:=r) (fun i hi=>hl i (List.mem_cons_of_mem _ hi))
  simp only[drB] at h
  cases hc:AV.cleans k u with
  |true=>rw[hc] at h;exact ih h
  |false=>
   rw[hc] at h
   simp only[cond_false,lk] at h
   cases hb:Nat.beq i j with
   |true=>
    rw[hb] at h
    obtain rfl:=Nat.eq_of_beq_eq_true hb
    obtain⟨u',hu⟩:=hl i (by simp[kl])
    rw[hu] at h
    exact⟨u',hu,(Option.some.inj h).symm⟩
   |false=>rw[hb] at h;exact ih h
theorem Ut {t:Nat}:∀{l:List Nat},Ln t l=true→t∈l
 |[],h=>by cases h
 |s::r,h=>by
  simp only[Ln,Bool.or_eq_true] at h
  rcases h with h|h
  ·obtain rfl:=Nat.eq_of_beq_eq_true h;simp
  ·exact List.mem_cons_of_mem _ (Ut h)
theorem Bp.same {τ τ':AS} (h:Bp P C o σ τ) (h1:∀t,lk t τ'.tm=lk t τ.tm) (h2:∀t,lk t τ'.bx=lk t τ.bx) (h3:∀t,lk t τ'.tk=lk t τ.tk):Bp P C o σ τ':=fun a w hG K Q hK=>h a w hG K Q fun a' w' h'=>hK a' w' (h'.same h1 h2 h3)
theorem sN {st e:TypeId} {s x:Operand} {k n sz m by':Nat} {cs ds:List D} {d:TypeDesc} {z:Value} {ux:AV} (ho:o.op= .call {callee:= .builtin .append,args:=#[s,x],argTypes:=#[st,st]}) (hd:o.dst=some t) (ht:t<C.N) (hs:σ.eval s=some (.own k n sz e cs)) (hk:lk k σ.tk=some (n,sz,e))
 (hx:σ.eval x=some ux) (hux:ux.asSl sz=some (m,ds)) (hT:P.underlying st=some (.slice e)) (hE:TyOk P e d z sz by') (hz:z.cells.size=sz) (hpos:0<sz) (h63:n+m≤1000000000) (hby:by'≤1000):
 LA P C o ⟨[],some (t,.own k (n+m) sz e (cs++ds)),none,some (k,n+m,sz,e),[],drT k σ.tm σ.tm,drB k σ.bx σ.bx,[k]⟩ σ:=fun σ' hT' hB _=>by
 have hs':=tr hT' (by rw[ho];simp[Op.operands,Call.operands]) hs
 have hx':=tr hT' (by rw[ho];simp[Op.operands,Call.operands]) hx
 have hk':lk k σ'.tk=some (n,sz,e):=(hB.tk k (by simp)).trans hk
 have hcx:=hB.cx k (by simp)
 simp only[clX,It.lT,It.lB,oc,At] at hcx
 refine(Sm ho hd ht hs' hk' hx' hux hT hE hz hpos h63 hby).same (fun j=> ?_) (fun j=> ?_) fun j=>rfl
 ·by_cases hjt:t=j
  ·subst hjt;rw[O1,It.lT,oc,List.cons_append,Bs,Bs]
  ·rw[O1,It.lT,oc,List.cons_append,Cf _ _ hjt,Cf _ _ hjt,jB,Kv]
   cases hl:lk j (drT k σ.tm σ.tm) with
   |some v=>
    obtain⟨u,hu,rfl⟩:=wX (fun i hi=>dH hi) hl
    have:=hB.mt j (by simp only[It.lT,oc,kl];exact List.mem_cons_of_mem _ (P7 hl))
    rw[this,hu];rfl
   |none=>
    cases hu:lk j σ'.tm with
    |none=>rfl
    |some u=>
     rcases nK hcx.1 hu with h|h
     ·rcases List.mem_cons.1 (Ut h) with h|h
      ·exact absurd h.symm hjt
      ·obtain⟨v,hv⟩:=dH h;rw[hl] at hv;cases hv
     ·simp only[Option.map_some,AV.share_clean k u h]
 ·rw[Rm,It.lB,oc,Ul,Kv]
  cases hl:lk j (drB k σ.bx σ.bx) with
  |some v=>
   obtain⟨u,hu,rfl⟩:=wY (fun i hi=>dH hi) hl
   have:=hB.mb j (by simp only[It.lB,oc];exact P7 hl)
   rw[this,hu];rfl
  |none=>
   cases hu:lk j σ'.bx with
   |none=>rfl
   |some u=>
    rcases nL hcx.2 hu with h|h
    ·obtain⟨v,hv⟩:=dH (Ut h);rw[hl] at hv;cases hv
    ·simp only[Option.map_some,AV.shares_clean k u h]
theorem Xn {st e:TypeId} {s x:Operand} {sz m by':Nat} {ds:List D} {d:TypeDesc} {z:Value} {ux:AV} {κ:Nat} (ho:o.op= .call {callee:= .builtin .append,args:=#[s,x],argTypes:=#[st,st]}) (hd:o.dst=some t) (ht:t<C.N) (hs:σ.eval s=some (.d (.v (.slice none 0 0))))
 (hx:σ.eval x=some ux) (hux:ux.asSl sz=some (m,ds)) (hT:P.underlying st=some (.slice e)) (hE:TyOk P e d z sz by') (hz:z.cells.size=sz) (hpos:0<sz) (h63:m≤1000000000) (hby:by'≤1000):
 LA P C o ⟨[],some (t,.own κ m sz e ds),none,some (κ,m,sz,e),[κ],[],[],[]⟩ σ:=fun σ' hT' _ hc=>
 L4 ho hd ht (tr hT' (by rw[ho];simp[Op.operands,Call.operands]) hs) (hc κ (by simp)) (tr hT' (by rw[ho];simp[Op.operands,Call.operands]) hx) hux hT hE hz hpos h63 hby
end
abbrev Bb (k:Nat) (e:TypeId) (l:List UInt8):AV:= .own k l.length 1 e (Ak l)
def AV.bytes (u:AV) (t:Bool) (l:List UInt8):Prop:=u.asSlT 1=some (t,l.length,Ak l)
section
variable {P:Program} {C:Cx} {o:Oper} {σ:AS} {t:Nat}
theorem jW {st e:TypeId} {yt:TypeId} {x:Operand} {n sz:Nat} {tg:Bool} {cs:List D} {ux:AV} (ho:o.op= .binOp .eql st x (.const (.slice none 0 0)) yt) (hd:o.dst=some t) (ht:t<C.N) (hT:P.underlying st=some (.slice e)) (hx:σ.eval x=some ux) (hux:ux.asSlT sz=some (tg,n,cs)):
 Ic P C o σ (fun σ'=>∃b:Bool,(b=true→n=0)∧σ'=σ.put t (.d (.v (.bool b)))):=by
 rintro a w ⟨bm,gt,fp,hg⟩ K Q hK
 obtain⟨ad,c,hv,k1,k2,k5,-⟩:=((hg.eval hx).asSlT hux).shape
 have hrun:(execOp a.eval o).run P w= .ok (.value (.bool ad.isNone)) w:=by
  have hc0:a.eval (.const (.slice none 0 0))= .slice none 0 0:=rfl
  have hg':(eqGuard .eql st x (.const (.slice none 0 0)) (.slice ad n c) (.slice none 0 0)).run P w= .ok () w:=by simp[eqGuard]
  simp only[execOp,ho,hv,hc0,Sem.run_bind,hg',Result.andThen_ok,Lib.run_eql_slice_nil w st e ad n c 0 0 hT,Sem.run_pure]
 unfold Oper.wp
 rw[hrun,Oper.upon_value,hd]
 refine hK _ _ _ ⟨ad.isNone,fun hb=> ?_,rfl⟩ ⟨bm,gt,fp,hg.put ht (.d (.v _))⟩
 have:=k5 (by cases ad<;>simp_all)
 omega
end
theorem Sr {n:Nat} (h:n<256):((UInt8.ofNat n).toNat:Int)=n:=by
 rw[UInt8.toNat_ofNat'];omega
abbrev A4:AV:= .d (.v (.slice none 0 0))
theorem RAs.les {B:Nat} {fp:Nat→Nat→Prop} {w:World} {bm:BM} {gt:Nat→Value} (hz:∀b o,bm.z b o→fp b o):∀{us fs:List AV} {vs:List Value},AV.les us fs→RAs B fp w bm gt us vs→RAs B fp w bm gt fs vs
 |_,_,[],.nil,h=>h
 |_,_,_::_,.cons h r,hh=>⟨hh.1.le hz h,RAs.les hz r hh.2⟩
theorem Ab.les {P:Program} {f:FuncId} {us fs:List AV} {Φ:AV→Prop} (h:Ab P f fs Φ) (hl:AV.les us fs):Ab P f us Φ:=
 ⟨h.1,fun w fp0 z0 vs h0 h1 h2 h3=>h.2 w fp0 z0 vs h0 h1 h2 (RAs.les h2 hl h3)⟩
abbrev Fb {α:Type} (tg:Bool) (sz:Nat) (f:α→List D) (l:List α):D:= .sl tg l.length sz (l.flatMap f)
abbrev Bx {α:Type} (k:Nat) (sz:Nat) (e:TypeId) (f:α→List D) (l:List α):AV:= .own k l.length sz e (l.flatMap f)
theorem nT {α:Type} {f:α→List D} {sz:Nat} (hf:∀x,(f x).length=sz):∀{l:List α} {i:Nat} {x:α},l[i]?=some x→((l.flatMap f).drop (i*sz)).take sz=f x
 |[],_,_,h=>by simp at h
 |y::r,0,x,h=>by
  simp only[List.getElem?_cons_zero,Option.some.injEq] at h
  subst h
  rw[Nat.zero_mul,List.drop_zero,List.flatMap_cons,List.take_append_of_le_length (by rw[hf];omega),List.take_of_length_le (by rw[hf];omega)]
 |y::r,i+1,x,h=>by
  rw[List.getElem?_cons_succ] at h
  rw[List.flatMap_cons,Nat.succ_mul,List.drop_append,List.drop_of_length_le (by rw[hf];omega),hf,Nat.add_sub_cancel,List.nil_append]
  exact nT hf h
theorem Yd {α:Type} {f:α→List D} {sz:Nat} (hf:∀x,(f x).length=sz):∀(l:List α) (i:Nat),(l.flatMap f).take (i*sz)=(l.take i).flatMap f
 |l,0=>by simp
 |[],i+1=>by simp
 |y::r,i+1=>by
  rw[List.flatMap_cons,List.take_succ_cons,List.flatMap_cons,Nat.succ_mul,List.take_append,List.take_of_length_le (by rw[hf];omega),hf,Nat.add_sub_cancel,Yd hf r i]
theorem Ye {α:Type} {f:α→List D} {sz:Nat} (hf:∀x,(f x).length=sz):∀(l:List α) (i:Nat),(l.flatMap f).drop (i*sz)=(l.drop i).flatMap f
 |l,0=>by simp
 |[],i+1=>by simp
 |y::r,i+1=>by
  rw[List.flatMap_cons,List.drop_succ_cons,Nat.succ_mul,List.drop_append,List.drop_of_length_le (by rw[hf];omega),hf,Nat.add_sub_cancel,List.nil_append,Ye hf r i]
section
variable {P:Program} {C:Cx} {o:Oper} {σ:AS} {t:Nat}
theorem dK {xt:TypeId} (p q:Bool) (hT:P.underlying xt=some .bool) (w:World):(Op.equal xt (.bool p) (.bool q)).run P w= .ok (p==q) w:=by
 have h:∀d:Nat,(Op.equalIn (d+1) xt (.bool p) (.bool q)).run P w= .ok (p==q) w:=fun d=>by simp[Op.equalIn,run_underlying hT]
 simp[Op.equal,Op.maxDepth,h 9999]
end
section
variable {P:Program} {C:Cx} {o:Oper} {σ:AS} {t:Nat}
theorem Z6 (m:Nat):IntKind.u8.wrap (m:Int)=((UInt8.ofNat m).toNat:Int):=by
 rw[IntKind.wrap_u8,UInt8.toNat_ofNat'];omega
end
mutual
def AV.frz (k:Nat) (ds:List D):AV→AV
 | .d x=> .d x
 | .ptr j o=>match Nat.beq j k with
   |true=> .d (.cp false (ds.drop o))
   |false=> .ptr j o
 | .own j n sz e cs=> .own j n sz e cs
 | .agg cs=> .agg (AV.frzs k ds cs)
 | .tup cs=> .tup (AV.frzs k ds cs)
 | .sem φ=> .sem φ
 | .cl f fs cs=> .cl f (AV.frzs k ds fs) (AV.frzs k ds cs)
 | .pk j o n sz=>match Nat.beq j k with
   |true=> .sem (fun _ _ _=>True)
   |false=> .pk j o n sz
def AV.frzs (k:Nat) (ds:List D):List AV→List AV
 |[]=>[]
 |c::r=>c.frz k ds::AV.frzs k ds r
end
theorem AV.frzs_eq (k:Nat) (ds:List D) (l:List AV):AV.frzs k ds l=l.map (AV.frz k ds):=by
 induction l with
 |nil=>rfl
 |cons d r ih=>rw[AV.frzs,ih];rfl
theorem RA.frz {B:Nat} {fp:Nat→Nat→Prop} {w:World} {bm:BM} {gt:Nat→Value} {k:Nat} {ds:List D} (hk:∀o,Rd B fp w (.cp false (ds.drop o)) (.pointer (some ⟨bm k,o,none⟩))) {u:AV} {v:Value} (h:RA B fp w bm gt u v):RA B fp w bm gt (u.frz k ds) v:=by
 have lst:∀(l:List AV) (vs:List Value),(∀(i:Nat) u v,l[i]?=some u→vs[i]?=some v→RA B fp w bm gt (u.frz k ds) v)→∀(i:Nat) u v,(AV.frzs k ds l)[i]?=some u→vs[i]?=some v→RA B fp w bm gt u v:=fun l vs h i u v hu hv=>by
  rw[AV.frzs_eq,List.getElem?_map,Option.map_eq_some_iff] at hu
  obtain⟨u0,hu0,rfl⟩:=hu
  exact h i u0 v hu0 hv
 induction h with
 |d h=>exact .d h
 |@ptr j o=>
  unfold AV.frz
  cases hb:Nat.beq j k with
  |true=>obtain rfl:=Nat.eq_of_beq_eq_true hb;exact .d (hk o)
  |false=>exact .ptr
 |own h=>exact .own h
 |agg vs h4 h7 ih=>unfold AV.frz;exact .agg vs (by rw[AV.frzs_eq,List.length_map];exact h4) (lst _ _ ih)
 |tup vs h4 h7 ih=>unfold AV.frz;exact .tup vs (by rw[AV.frzs_eq,List.length_map];exact h4) (lst _ _ ih)
 |sem h1 h=>exact .sem h1 h
 |cl us vs h3 h4 h6 h7 ih6 ih7=>unfold AV.frz;exact .cl us vs (by rw[AV.frzs_eq,List.length_map];exact h3) (by rw[AV.frzs_eq,List.length_map];exact h4) (lst _ _ ih6) (lst _ _ ih7)
 |@pk j o n sz c h1 h2=>
  unfold AV.frz
  cases hb:Nat.beq j k with
  |true=>exact .sem rfl fun _ _ _ _ _=>trivial
  |false=>exact .pk h1 h2
def frT (k:Nat) (ds:List D):List (Nat×AV)→List (Nat×AV)
 |[]=>[]
 |(j,c)::r=>(j,c.frz k ds)::frT k ds r
def frB (k:Nat) (ds:List D):List (Nat×List AV)→List (Nat×List AV)
 |[]=>[]
 |(j,c)::r=>match Nat.beq j k with
  |true=>frB k ds r
  |false=>(j,AV.frzs k ds c)::frB k ds r
theorem wZ (k t:Nat) (ds:List D):∀l:List (Nat×AV),lk t (frT k ds l)=(lk t l).map (AV.frz k ds)
 |[]=>rfl
 |(j,c)::r=>by
  simp only[frT,lk]
  cases Nat.beq j t with
  |true=>rfl
  |false=>exact wZ k t ds r
theorem Rq {k t:Nat} {ds:List D} {c:List AV}:∀{l:List (Nat×List AV)},lk t (frB k ds l)=some c→t≠k∧∃c0,lk t l=some c0∧c=AV.frzs k ds c0
 |[],h=>by cases h
 |(j,c')::r,h=>by
  simp only[frB] at h
  cases hj:Nat.beq j k with
  |true=>
   rw[hj] at h
   obtain⟨h1,c0,h2,h3⟩:=Rq h
   obtain rfl:=Nat.eq_of_beq_eq_true hj
   exact⟨h1,c0,by rw[Cf _ _ (fun e=>h1 e.symm)];exact h2,h3⟩
  |false=>
   rw[hj] at h
   simp only[lk] at h⊢
   cases ht:Nat.beq j t with
   |true=>
    rw[ht] at h
    cases h
    obtain rfl:=Nat.eq_of_beq_eq_true ht
    exact⟨fun e=>(by subst e;rw[Nat.beq_refl] at hj;cases hj),c',rfl,rfl⟩
   |false=>rw[ht] at h;exact Rq h
def Ent (σ σ':AS):Prop:=∀(C:Cx) (a:Act) (w:World),G C σ a w→G C σ' a w
theorem GG.frz {C:Cx} {bm:BM} {gt:Nat→Value} {fp:Nat→Nat→Prop} {σ:AS} {a:Act} {w:World} (hg:GG C bm gt fp σ a w) {k:Nat} {cs:List AV} {ds:List D} (hk:lk k σ.bx=some cs) (hd:Ew cs=some ds):
 ∃fp',GG C bm gt fp' ⟨frT k ds σ.tm,frB k ds σ.bx,σ.tk⟩ a w∧∀n sz c,Mh cs=true→n*sz≤ds.length→n≤c→c≤maxLen→Rd C.W.heap.size fp' w (.sl false n sz (ds.take (n*sz))) (.slice (some ⟨bm k,0,none⟩) n c):=by
 have hB:=hg.bx k cs hk
 obtain⟨cur,e,h1,h2,h3⟩:=hB.obj
 obtain⟨q1,q2⟩:=Ku (B:=C.W.heap.size) (fp:=fp) (w:=w) (bm:=bm) (gt:=gt) hd
 let fp':Nat→Nat→Prop:=fun b o=>fp b o∨(b=bm k∧o<cs.length)
 have keepD:∀{d v},Rd C.W.heap.size fp w d v→Rd C.W.heap.size fp' w d v:=fun hr=>hr.keep (Nat.le_refl _) (fun _ _ x=> .inl x) (fun _ _ _=>rfl)
 have keep:∀{u v},RA C.W.heap.size fp w bm gt u v→RA C.W.heap.size fp' w bm gt u v:=fun hr=>hr.keep hg.zf (NC.refl w) (Nat.le_refl _) (fun _ _ x=> .inl x) (fun _ _ _=>rfl)
 have hcp:∀o,Rd C.W.heap.size fp' w (.cp false (ds.drop o)) (.pointer (some ⟨bm k,o,none⟩)):=fun o=>by
  refine .cp ((cur.toList.take cs.length).drop o) (by have q0:cur.toList.length=cur.size:=Array.length_toList;simp only[Az,Al,q0,q1];omega) (fun i d u hd' hu=> ?_) (fun i u hu=> ?_)
  ·rw[List.getElem?_drop] at hd' hu
   have hlt:o+i<cs.length:=by rw[←q1];exact(Aw.1 hd').1
   have hx:=Am hlt
   rw[List.getElem?_take_of_lt hlt] at hu
   have hu':cur[o+i]?=some u:=by simpa using hu
   exact keepD (q2 _ _ d u hx hd' (h3 _ _ u hx hu'))
  ·rw[List.getElem?_drop] at hu
   have hlt:o+i<cs.length:=by
    have:=(Aw.1 hu).1
    rw[Al] at this
    omega
   rw[List.getElem?_take_of_lt hlt] at hu
   have hu':cur[o+i]?=some u:=by simpa using hu
   exact⟨.inr ⟨rfl,hlt⟩,fun h=>(by cases h),by rw[cell_of_row w _ _ _ _ _ h1];exact hu'⟩
 refine⟨fp',{sz:=hg.sz,nN:=hg.nN,gd:=hg.gd,za:=hg.za,zb:=hg.zb,zf:=fun b o hz=> .inl (hg.zf b o hz),ztk:=hg.ztk,df:=hg.df,tm:=fun t u hu=> ?_,bx:=fun j c hj=> ?_,bxi:=fun j j' c c' hj hj' he=> ?_,tk:=fun j n sz e hj=> ?_,tki:=hg.tki,tkb:=fun j j' x c hj hj'=> ?_,fpb:=fun b o hf=> ?_,fp0:=fun b o hf=> .inl (hg.fp0 b o hf),fpB:=hg.fpB,bel:=hg.bel},fun n sz c ho hn hc hm=> ?_⟩
 ·rw[wZ,Option.map_eq_some_iff] at hu
  obtain⟨u0,hu0,rfl⟩:=hu
  obtain⟨v,k1,k2⟩:=hg.tm t u0 hu0
  exact⟨v,k1,(keep k2).frz hcp⟩
 ·obtain⟨hne,c0,hc0,rfl⟩:=Rq hj
  have hy:=hg.bx j c0 hc0
  obtain⟨cur2,e2,k1,k2,k3⟩:=hy.obj
  refine⟨hy.own,fun o hf=> ?_,cur2,e2,k1,by rw[AV.frzs_eq,List.length_map];exact k2,fun i u v hu hv=> ?_⟩
  ·rcases hf with hf|⟨hf,_⟩
   ·exact hy.un o hf
   ·exact hne (hg.bxi j k c0 cs hc0 hk hf)
  ·rw[AV.frzs_eq,List.getElem?_map,Option.map_eq_some_iff] at hu
   obtain⟨u0,hu0,rfl⟩:=hu
   exact(keep (k3 i u0 v hu0 hv)).frz hcp
 ·obtain⟨_,c0,hc0,_⟩:=Rq hj
  obtain⟨_,c1,hc1,_⟩:=Rq hj'
  exact hg.bxi j j' c0 c1 hc0 hc1 he
 ·have hx:=hg.tk j n sz e hj
  exact⟨hx.own,fun g hgb o ho hf=>hf.elim (hx.tail g hgb o ho) (fun hh=>hg.tkb j k _ cs hj hk (by rw[hgb,hh.1]))⟩
 ·obtain⟨_,c0,hc0,_⟩:=Rq hj'
  exact hg.tkb j j' x c0 hj hc0
 ·rcases hf with hf|⟨rfl,hf⟩
  ·exact hg.fpb b o hf
  ·exact⟨.inr hB.own,hB.lt⟩
 ·have hlen:(ds.take (n*sz)).length=n*sz:=by rw[Al];omega
  refine .sl (cur.toList.take (n*sz)) hc hm hlen ?_ (fun e=>by cases e) (fun u hu=> ?_) (fun i d u hd' hu=> ?_) (fun i u hu=> ?_)
  ·have q0:cur.toList.length=cur.size:=Array.length_toList
   rw[hlen,Al,q0];omega
  ·obtain⟨i,hi,rfl⟩:=List.getElem_of_mem hu
   have hi':i<cs.length:=by rw[Al] at hi;omega
   have hx:=Am hi'
   refine(h3 i _ _ hx ?_).oneCell (Mi ho hx)
   simp
  ·have hi:i<n*sz:=by have:=(Aw.1 hd').1;omega
   rw[List.getElem?_take_of_lt hi] at hd' hu
   have hlt:i<cs.length:=by omega
   have hx:=Am hlt
   exact keepD (q2 _ _ d u hx hd' (h3 _ _ u hx (by simpa using hu)))
  ·have hi:i<n*sz:=by have:=(Aw.1 hu).1;rw[Al] at this;omega
   rw[List.getElem?_take_of_lt hi] at hu
   exact⟨bm k,0,rfl,.inr ⟨rfl,by omega⟩,fun h=>(by cases h),by rw[cell_of_row w _ _ _ _ _ h1,Nat.zero_add];simpa using hu⟩
theorem EX {σ:AS} {k:Nat} {cs:List AV} {ds:List D} (hk:lk k σ.bx=some cs) (hd:Ew cs=some ds):Ent σ ⟨frT k ds σ.tm,frB k ds σ.bx,σ.tk⟩:=by
 rintro C a w ⟨bm,gt,fp,hg⟩
 obtain⟨fp',h,_⟩:=hg.frz hk hd
 exact⟨bm,gt,fp',h⟩
section
variable {P:Program} {C:Cx} {o:Oper} {σ:AS} {t:Nat}
theorem GG.evA {C:Cx} {bm:BM} {gt:Nat→Value} {fp:Nat→Nat→Prop} {σ:AS} {a:Act} {w:World} (h:GG C bm gt fp σ a w):∀{l:List Operand} {us:List AV},Proofs.YtokmjjkbginodaaGreatDoor.evL σ l=some us→(l.map a.eval).length=us.length∧∀(i:Nat) u v,us[i]?=some u→(l.map a.eval)[i]?=some v→RA C.W.heap.size fp w bm gt u v
 |[],us,hl=>by cases hl;exact⟨rfl,fun i u v hu=>by simp at hu⟩
 |x::r,us,hl=>by
  unfold Proofs.YtokmjjkbginodaaGreatDoor.evL at hl
  split at hl
  ·rename_i u us' h1 h2
   cases hl
   obtain⟨k1,k2⟩:=GG.evA h h2
   refine⟨by simpa using k1,fun i u' v hu hv=> ?_⟩
   cases i with
   |zero=>simp at hu hv;subst hu hv;exact h.eval h1
   |succ i=>exact k2 i u' v (by simpa using hu) (by simpa using hv)
  ·cases hl
theorem Xo {f:FuncId} {first captured:Array Operand} {fs cs:List AV} (ho:o.op= .makeFunc (.func f) first captured) (hd:o.dst=some t) (ht:t<C.N) (hf:evL σ first.toList=some fs) (hc:evL σ captured.toList=some cs):Bp P C o σ (σ.put t (.cl f fs cs)):=
 Ba hd ht fun a w bm gt fp hg=>by
  obtain⟨k1,k2⟩:=hg.evA hf
  obtain⟨k3,k4⟩:=hg.evA hc
  refine⟨.func (.func f) (first.toList.map a.eval).toArray (captured.toList.map a.eval).toArray,?_,.cl _ _ k1 k3 k2 k4⟩
  simp only[execOp,ho,Instr.makeFunc]
  have e1:(first.toList.map a.eval).toArray=first.map a.eval:=by obtain⟨l⟩:=first;simp
  have e2:(captured.toList.map a.eval).toArray=captured.map a.eval:=by obtain⟨l⟩:=captured;simp
  rw[e1,e2]
  simp[go_sem]
theorem dL {f:FuncId} {first captured:Array Operand} {fs cs:List AV} (ho:o.op= .makeFunc (.func f) first captured) (hd:o.dst=some t) (ht:t<C.N) (hf:evL σ first.toList=some fs) (hc:evL σ captured.toList=some cs):LA P C o ⟨[],some (t,.cl f fs cs),none,none,[],[],[],[]⟩ σ:=fun _ hT _ _=>
 Xo ho hd ht ((trL hT fun x hx=>by rw[ho];show x∈(first++captured).toList;rw[Array.toList_append];exact List.mem_append_left _ hx).trans hf) ((trL hT fun x hx=>by rw[ho];show x∈(first++captured).toList;rw[Array.toList_append];exact List.mem_append_right _ hx).trans hc)
theorem jX {f:FuncId} {s:Nat} {fs cs:List AV} {args:Array Operand} {ats:Array TypeId} {us gs:List AV} {Φ:AV→Prop} (ho:o.op= .call {callee:= .value (.tmp s),args:=args,argTypes:=ats}) (hd:o.dst=some t) (ht:t<C.N) {κ:Nat} (hc:σ.clean κ=true)
 (hf:σ.eval (.tmp s)=some (.cl f fs cs)) (hu:evL σ args.toList=some us) (hn:(AV.noPtrs fs&&AV.noPtrs us&&AV.noPtrs cs)=true) (hgv:AV.gives fs++AV.gives us++AV.gives cs=gs) (hcall:Ab P f gs Φ):Ic P C o σ (fun σ'=>∃r,Φ r∧σ'=σ.res t κ r):=by
 rintro a w ⟨bm,gt,fp,hg⟩ K Q hK
 subst hgv
 simp only[At] at hn
 have hfv:=hg.eval (x:= .tmp s) hf
 generalize hv:a.eval (.tmp s)=v at hfv
 cases hfv with
 |cl ms ns h3 h4 h6 h7=>
  have app:∀{us vs us' vs'},RAs w.heap.size fp w ⟨fun _=>0,bm.z⟩ (fun _=>undef) us vs→RAs w.heap.size fp w ⟨fun _=>0,bm.z⟩ (fun _=>undef) us' vs'→RAs w.heap.size fp w ⟨fun _=>0,bm.z⟩ (fun _=>undef) (us++us') (vs++vs'):=by
   intro us
   induction us with
   |nil=>intro vs us' vs' h h';cases vs with|nil=>exact h'|cons=>exact h.elim
   |cons u us ih=>intro vs us' vs' h h';cases vs with|nil=>exact h.elim|cons v vs=>exact⟨h.1,ih h.2 h'⟩
  have cap:∀(l:List AV) (ms:List Value),ms.length=l.length→AV.noPtrs l=true→(∀(i:Nat) d u,l[i]?=some d→ms[i]?=some u→RA C.W.heap.size fp w bm gt d u)→RAs w.heap.size fp w ⟨fun _=>0,bm.z⟩ (fun _=>undef) (AV.gives l) ms:=by
   intro l
   induction l with
   |nil=>intro ms h _ _;rw[List.eq_nil_of_length_eq_zero h];trivial
   |cons x l ih=>
    intro ms h hn hr
    simp only[AV.noPtrs,At] at hn
    cases ms with
    |nil=>simp at h
    |cons m ms=>exact⟨(hr 0 x m rfl rfl).give (bm:=bm) (bm':=⟨fun _=>0,bm.z⟩) (fun _ _ x=>x) hn.1,ih ms (by simpa using h) hn.2 fun i d u hd hu=>hr (i+1) d u (by simpa using hd) (by simpa using hu)⟩
  have hA:=hcall.2 w fp bm.z (ms++args.toList.map a.eval++ns) hg.gdw (fun b o hf=>(hg.fpb b o hf).2) hg.zf (app (app (cap _ _ h3 hn.1.1 h6) (hg.evL hu hn.1.2)) (cap _ _ h4 hn.2 h7))
  have hrun:(execOp a.eval o).run P w= .ok (.enter f (ms++args.toList.map a.eval++ns).toArray) w:=by
   simp only[execOp,ho,resolve,hv,Deferred.ofValue,invoke,Sem.run_bind,Sem.run_pure,Result.andThen_ok,hcall.1]
   obtain⟨l⟩:=args
   simp
  unfold Oper.wp
  rw[hrun]
  exact O0 hg hd ht hc hA hK
theorem xA {f:FuncId} {s:Nat} {fs cs:List AV} {args:Array Operand} {ats:Array TypeId} {us gs:List AV} {r:AV} {κ:Nat} (ho:o.op= .call {callee:= .value (.tmp s),args:=args,argTypes:=ats}) (hd:o.dst=some t) (ht:t<C.N) (hf:σ.eval (.tmp s)=some (.cl f fs cs)) (hu:evL σ args.toList=some us) (hn:(AV.noPtrs fs&&AV.noPtrs us&&AV.noPtrs cs)=true) (hgv:AV.gives fs++AV.gives us++AV.gives cs=gs) (hcall:Ab P f gs (fun r'=>r'=r)):
 LA P C o ⟨[],some (t,r.ren κ),none,r.tok.map fun x=>(κ,x),[κ],[],[],[]⟩ σ:=fun σ' hT _ hc a w hG K Q hK=>by
 refine jX ho hd ht (hc κ (by simp)) (tr hT (by rw[ho];simp[Op.operands,Call.operands]) hf) ((trL hT fun x hx=>by rw[ho];simp only[Op.operands,Call.operands];simp;right;simpa using hx).trans hu) hn hgv hcall a w hG K Q ?_
 rintro σ2 a' w' ⟨r',rfl,rfl⟩ hG'
 rw[Z5] at hG'
 exact hK a' w' hG'
end
end Go.Proofs.YtokmjjkbginodaaGreatDoor
namespace Go.Proofs.YtokmjjkbginodaaGreatDoor
open Go.RowKit
def Th (l:List Oper) (o1:Oper) (its:List It) (σ:AS):Bool:=Kw (l++[o1]).toArray (Sq (l++[o1]) []) 0 l its&&O2 σ its&&(List.range l.length).all (fun j=>rch (Sq (l++[o1]) []) l.length j)
theorem EY {P:Program} {o:Oper} {a:Act} {w:World} {K K' K2:Act→World→Prop} {Q:Exit→Act→World→Prop}
 (h:o.wp P a w K' Q) (hk:∀a w,K' a w→K a w):o.wp P a w K (Exit.then K2 Q):=by
 unfold Oper.wp at*
 generalize (execOp a.eval o).run P w=r at*
 cases r with
 |ok n w'=>
  cases n<;>simp only[Oper.upon] at h⊢ <;>first|exact hk _ _ h|exact Calls.mono h (fun e w'' he=>by cases e<;>first|exact hk _ _ he|exact he)|exact Rows.mono h (fun _ _ he=>hk _ _ he)
 |halt x w'=>cases x<;>simp only[Oper.upon] at h⊢ <;>exact h
theorem dM {P:Program} {C:Cx} {Φ:Exit→AS→Prop} {id:Nat} {l:List Oper} {o1:Oper} {its:List It} {σ:AS} (hm:P.follows .mixedOrders=true) (ha:I0 (l++[o1]).toArray=true) (hs:Scr P C (l++[o1]).toArray l its σ) (hok:Th l o1 its σ=true) (hf:J7 P C (l++[o1]).toArray Φ [o1] (σ.addAll its)):
 C8 P C (.region id (l++[o1]).toArray true) Φ σ:=by
 intro a w hG
 have hlen:=nQ hs
 have hget:=nR hs
 simp only[Th,At] at hok
 obtain⟨⟨hpairs,hcl0⟩,hlast⟩:=hok
 have hreachA:∀d:Nat→Bool,(∀(m:Nat) o',(l++[o1])[m]?=some o'→d m=true→Fo o' d)→∀k j o,(l++[o1])[k]?=some o→Fo o d→rch (Sq (l++[o1]) []) k j=true→d j=true:=fun d hcl k j o ho hd hr=>
  Ur d (l++[o1]) [] (l++[o1]) (by simp) (by simp) (fun k j hk=>by simp at hk) k j (Aw.1 ho).1 o ho hcl hd hr
 have hclos:∀d:Nat→Bool,d l.length=false→(∀(m:Nat) o',l[m]?=some o'→d m=true→Fo o' d)→∀(m:Nat) o',(l++[o1])[m]?=some o'→d m=true→Fo o' d:=fun d hd hcl m o' ho' hdm=>by
  by_cases hm:m<l.length
  ·rw[List.getElem?_append_left hm] at ho'
   exact hcl m o' ho' hdm
  ·have:=(Aw.1 ho').1
   rw[Ap,List.length_singleton] at this
   obtain rfl:m=l.length:=by omega
   rw[hd] at hdm;cases hdm
 have hinl:∀(k:Nat) o,l[k]?=some o→(l++[o1])[k]?=some o:=fun k o ho=>by
  rw[List.getElem?_append_left (Aw.1 ho).1];exact ho
 have hreach:∀d:Nat→Bool,d l.length=false→(∀(m:Nat) o',l[m]?=some o'→d m=true→Fo o' d)→∀k j o,l[k]?=some o→Fo o d→rch (Sq (l++[o1]) []) k j=true→d j=true:=fun d hdl hcl k j o ho hd hr=>hreachA d (hclos d hdl hcl) k j o (hinl k o ho) hd hr
 have hgetIt:∀(k:Nat) o,l[k]?=some o→∃it,its[k]?=some it:=fun k o ho=>⟨_,Am (by rw[hlen];exact(Aw.1 ho).1)⟩
 have hgetO:∀(k:Nat) it,its[k]?=some it→∃o,l[k]?=some o:=fun k it hi=>⟨_,Am (by rw[←hlen];exact(Aw.1 hi).1)⟩
 refine Js hm ha (fun d a w=>(d l.length=false∧∃σ',G C σ' a w∧Sim l its σ d σ')∨(d l.length=true∧(∀k,k<l.length→d k=true)∧Um C Φ .normal a w)) (.inl ⟨rfl,σ,?_,?_⟩) ?_ ?_
 ·obtain⟨bm,gt,fp,hg⟩:=hG
  exact⟨bm,gt,fp,hg.grow (Below.drew (Below.refl _ _))⟩
 ·refine⟨fun t=>(Fz _ _ _ fun _ _ _ _=>rfl).symm,fun t=>(Fz _ _ _ fun _ _ _ _=>rfl).symm,fun t=>(Fz _ _ _ fun _ _ _ _=>rfl).symm,fun j it hi _ id hid=>O3 hcl0 it (A8 hi) id hid,fun j it hi _ id hid=>Rp hcl0 it (A8 hi) id hid,fun k o _ h=>by cases h⟩
 ·
  have step:∀(k:Nat) o it,l[k]?=some o→its[k]?=some it→∀d a w,d k=false→Fo o d→d l.length=false→(∃σ',G C σ' a w∧Sim l its σ d σ')→wpList P (l++[o1]).toArray (Exit.then (fun a w=>(A3 d k l.length=false∧∃σ',G C σ' a w∧Sim l its σ (A3 d k) σ')∨(A3 d k l.length=true∧(∀j,j<l.length→A3 d k j=true)∧Um C Φ .normal a w)) (Um C Φ)) [o] a w:=by
   rintro k o it ho hi d a w hdk hdep hdl ⟨σ',hG',hsim⟩
   have R:=hreach d hdl hsim.dep
   have hkl:=(Aw.1 ho).1
   have key:∀(t:Nat) {β:Type} (sel:It→List (Nat×β)),(∀(m:Nat) om itm,l[m]?=some om→its[m]?=some itm→wrs sel t itm=true→(m<k→C1 (l++[o1]).toArray om itm o it=true)∧(k<m→C1 (l++[o1]).toArray o it om itm=true))→∀(m:Nat) itm,its[m]?=some itm→wrs sel t itm=true→d m=decide (m<k):=by
    intro t β sel hcl m itm hm hw
    obtain⟨om,hom⟩:=hgetO m itm hm
    obtain⟨c1,c2⟩:=hcl m om itm hom hm hw
    rcases Nat.lt_trichotomy m k with hlt|heq|hgt
    ·have:=(Cs hpairs hlt hom hm ho hi).1 (c1 hlt)
     rw[Nat.zero_add,Nat.zero_add] at this
     rw[R k m o ho hdep this];simp[hlt]
    ·subst heq;rw[hdk];simp
    ·have:=(Cs hpairs hgt ho hi hom hm).1 (c2 hgt)
     rw[Nat.zero_add,Nat.zero_add] at this
     cases hdm:d m with
     |false=>simp;omega
     |true=>exact absurd (R m k om hom (hsim.dep m om hom hdm) this) (by rw[hdk];simp)
   have wrT:∀{t:Nat} {itm:It},wrs It.lT t itm=true→t∈kl itm.lT:=fun hw=>by obtain⟨u,hu⟩:=G4.1 hw;exact P7 hu
   have wrB:∀{t:Nat} {itm:It},wrs It.lB t itm=true→t∈kl itm.lB:=fun hw=>by obtain⟨u,hu⟩:=G4.1 hw;exact P7 hu
   have wrK:∀{t:Nat} {itm:It},wrs It.lK t itm=true→t∈kl itm.lK:=fun hw=>by obtain⟨u,hu⟩:=G4.1 hw;exact P7 hu
   have hstep:=hget k o it ho hi
   refine hstep σ' (fun t ht=> ?_) ⟨fun b hb=> ?_,fun t ht=> ?_,fun b hb=> ?_,fun t ht=> ?_,hsim.cx k it hi hdk⟩ (hsim.cl k it hi hdk) a w hG' _ _ fun a' w' hG2=> .inl ⟨by rw[Ea _ _ _ (by omega)];exact hdl,σ'.add it,hG2,?_⟩
   ·rw[hsim.tm,Hp]
    exact Bu _ _ _ fun m itm hm hw=>by
     rw[Nat.zero_add]
     exact key t It.lT (fun m om itm _ _ hw=>⟨fun _=>by simp only[C1,Br (wrT hw) ht,Bool.true_or],fun _=>by simp only[C1,Br ht (wrT hw),Bool.true_or,Bool.or_true]⟩) m itm hm hw
   ·rw[hsim.bx,Hq]
    exact Bu _ _ _ fun m itm hm hw=>by
     rw[Nat.zero_add]
     exact key b It.lB (fun m om itm _ _ hw=>⟨fun _=>by simp only[C1,Br (wrB hw) hb,Bool.true_or,Bool.or_true],fun _=>by simp only[C1,Br hb (wrB hw),Bool.true_or,Bool.or_true]⟩) m itm hm hw
   ·rw[hsim.tm,Hp]
    exact Bu _ _ _ fun m itm hm hw=>by
     rw[Nat.zero_add]
     exact key t It.lT (fun m om itm _ _ hw=>⟨fun _=>by simp only[C1,Br (wrT hw) ht,Bool.true_or,Bool.or_true],fun _=>by simp only[C1,Br ht (wrT hw),Bool.true_or,Bool.or_true]⟩) m itm hm hw
   ·rw[hsim.bx,Hq]
    exact Bu _ _ _ fun m itm hm hw=>by
     rw[Nat.zero_add]
     exact key b It.lB (fun m om itm _ _ hw=>⟨fun _=>by simp only[C1,Br (wrB hw) hb,Bool.true_or,Bool.or_true],fun _=>by simp only[C1,Br hb (wrB hw),Bool.true_or,Bool.or_true]⟩) m itm hm hw
   ·rw[hsim.tk,Lo]
    exact Bu _ _ _ fun m itm hm hw=>by
     rw[Nat.zero_add]
     exact key t It.lK (fun m om itm _ _ hw=>⟨fun _=>by simp only[C1,Br (wrK hw) ht,Bool.true_or,Bool.or_true],fun _=>by simp only[C1,Br ht (wrK hw),Bool.true_or,Bool.or_true]⟩) m itm hm hw
   ·
    have upd:∀{β:Type} (sel:It→List (Nat×β)) (log log0:List (Nat×β)) (t:Nat),(∀t,lk t log=I6 sel t d 0 its (lk t log0))→(∀t,wrs sel t it=true→∀(m:Nat) itm,its[m]?=some itm→wrs sel t itm=true→d m=decide (m<k))→lk t (sel it++log)=I6 sel t (A3 d k) 0 its (lk t log0):=by
     intro β sel log log0 t hlog hkey
     rw[Kv]
     by_cases hw:wrs sel t it=true
     ·obtain⟨u,hu⟩:=G4.1 hw
      rw[hu]
      refine(Rn its 0 _ k it hi hu (by rw[Nat.zero_add,Ev]) fun i it' hki hit hw'=> ?_).symm
      rw[Nat.zero_add,Ea _ _ _ (by omega),hkey t hw i it' hit hw']
      simp;omega
     ·rw[wO hw,hlog]
      refine Bu _ _ _ fun m itm hm hwm=> ?_
      rw[Nat.zero_add,Ea]
      intro e;subst e
      rw[hi] at hm;cases hm
      exact hw hwm
    refine⟨fun t=> ?_,fun t=> ?_,fun t=> ?_,fun j itj hj hdj id hid=> ?_,fun j itj hj hdj id hid=> ?_,fun m om hom hdm=> ?_⟩
    ·rw[O1];exact upd It.lT σ'.tm σ.tm t hsim.tm fun t hw=>key t It.lT fun m om itm _ _ hwm=>⟨fun _=>by simp only[C1,Br (wrT hwm) (wrT hw),Bool.true_or,Bool.or_true],fun _=>by simp only[C1,Br (wrT hw) (wrT hwm),Bool.true_or,Bool.or_true]⟩
    ·rw[Rm];exact upd It.lB σ'.bx σ.bx t hsim.bx fun t hw=>key t It.lB fun m om itm _ _ hwm=>⟨fun _=>by simp only[C1,Br (wrB hwm) (wrB hw),Bool.true_or,Bool.or_true],fun _=>by simp only[C1,Br (wrB hw) (wrB hwm),Bool.true_or,Bool.or_true]⟩
    ·rw[jR];exact upd It.lK σ'.tk σ.tk t hsim.tk fun t hw=>key t It.lK fun m om itm _ _ hwm=>⟨fun _=>by simp only[C1,Br (wrK hwm) (wrK hw),Bool.or_true],fun _=>by simp only[C1,Br (wrK hw) (wrK hwm),Bool.or_true]⟩
    ·have hjk:j≠k:=fun e=>by subst e;rw[Ev] at hdj;cases hdj
     rw[Ea _ _ _ hjk] at hdj
     refine Yc (hsim.cl j itj hj hdj id hid) ?_
     obtain⟨oj,hoj⟩:=hgetO j itj hj
     rcases Nat.lt_or_gt_of_ne hjk with hlt|hgt
     ·have:=(Cs hpairs hlt hoj hj ho hi).2.2.1
      rw[Nat.zero_add,Nat.zero_add] at this
      rcases this with h|h
      ·exact Ij h id hid
      ·exact absurd (R k j o ho hdep h) (by rw[hdj];simp)
     ·exact Ij (Cs hpairs hgt ho hi hoj hj).2.1 id hid
    ·have hjk:j≠k:=fun e=>by subst e;rw[Ev] at hdj;cases hdj
     rw[Ea _ _ _ hjk] at hdj
     refine nP (hsim.cx j itj hj hdj id hid) ?_
     obtain⟨oj,hoj⟩:=hgetO j itj hj
     rcases Nat.lt_or_gt_of_ne hjk with hlt|hgt
     ·have:=(Cs hpairs hlt hoj hj ho hi).2.2.2.2
      rw[Nat.zero_add,Nat.zero_add] at this
      rcases this with h|h
      ·exact Mn h id hid
      ·exact absurd (R k j o ho hdep h) (by rw[hdj];simp)
     ·exact Mn (Cs hpairs hgt ho hi hoj hj).2.2.2.1 id hid
    ·by_cases hmk:m=k
     ·subst hmk
      rw[ho] at hom;cases hom
      intro e he hb
      by_cases hek:e.on=m
      ·rw[hek,Ev]
      ·rw[Ea _ _ _ hek];exact hdep e he hb
     ·rw[Ea _ _ _ hmk] at hdm
      intro e he hb
      by_cases hek:e.on=k
      ·rw[hek,Ev]
      ·rw[Ea _ _ _ hek];exact hsim.dep m om hom hdm e he hb
  have all:∀(r:List Oper) (k:Nat),(∀(i:Nat) o,r[i]?=some o→(l++[o1])[k+i]?=some o)→Nl P (l++[o1]).toArray (Um C Φ) (fun d a w=>(d l.length=false∧∃σ',G C σ' a w∧Sim l its σ d σ')∨(d l.length=true∧(∀k,k<l.length→d k=true)∧Um C Φ .normal a w)) k r:=by
   intro r
   induction r with
   |nil=>intro k _;trivial
   |cons o r ih=>
    intro k hr
    have ho:=hr 0 o rfl
    rw[Nat.add_zero] at ho
    refine⟨fun d a w hd hdep hJ=> ?_,ih (k+1) fun i o' hi'=>by rw[show k+1+i=k+(i+1) by omega];exact hr (i+1) o' (by simpa using hi')⟩
    by_cases hk:k<l.length
    ·rw[List.getElem?_append_left hk] at ho
     rcases hJ with⟨h1,h2⟩|⟨h1,h2,h3⟩
     ·obtain⟨it,hi⟩:=hgetIt k o ho
      exact step k o it ho hi d a w hd hdep h1 h2
     ·rw[h2 k hk] at hd;cases hd
    ·have hlt:=(Aw.1 ho).1
     rw[Ap,List.length_singleton] at hlt
     obtain rfl:k=l.length:=by omega
     rw[List.getElem?_append_right (Nat.le_refl _),Nat.sub_self] at ho
     simp only[List.getElem?_cons_zero,Option.some.injEq] at ho
     subst ho
     rcases hJ with⟨h1,σ',hG',hsim⟩|⟨h1,h2,h3⟩
     ·have hall:∀j,j<l.length→d j=true:=fun j hj=>
       hreachA d (hclos d h1 hsim.dep) l.length j o1 (by rw[List.getElem?_append_right (Nat.le_refl _),Nat.sub_self];rfl) hdep (List.all_eq_true.1 hlast j (List.mem_range.2 hj))
      have hG2:G C (σ.addAll its) a w:=by
       refine hG'.same (fun t=> ?_) (fun t=> ?_) (fun t=> ?_)
       ·rw[hsim.tm]
        have h1:=Hp its σ t its.length
        rw[List.take_length] at h1
        rw[h1]
        exact Bu _ _ _ fun m itm hm _=>by
         have:=(Aw.1 hm).1
         rw[Nat.zero_add,hall m (by omega)];simp[this]
       ·rw[hsim.bx]
        have h1:=Hq its σ t its.length
        rw[List.take_length] at h1
        rw[h1]
        exact Bu _ _ _ fun m itm hm _=>by
         have:=(Aw.1 hm).1
         rw[Nat.zero_add,hall m (by omega)];simp[this]
       ·rw[hsim.tk]
        have h1:=Lo its σ t its.length
        rw[List.take_length] at h1
        rw[h1]
        exact Bu _ _ _ fun m itm hm _=>by
         have:=(Aw.1 hm).1
         rw[Nat.zero_add,hall m (by omega)];simp[this]
      have hstep:=hf a w hG2
      have hk:∀a' w',Um C Φ .normal a' w'→(A3 d l.length l.length=false∧∃σ',G C σ' a' w'∧Sim l its σ (A3 d l.length) σ')∨(A3 d l.length l.length=true∧(∀j,j<l.length→A3 d l.length j=true)∧Um C Φ .normal a' w'):=fun a' w' hl=> .inr ⟨Ev _ _,fun j hj=>by rw[Ea _ _ _ (by omega)];exact hall j hj,hl⟩
      unfold wpList at hstep⊢
      split
      ·rename_i hw
       rw[if_pos hw] at hstep
       rcases hstep with hstep|hstep
       ·exact .inl (EY hstep fun a' w' h=>hk a' w' h)
       ·exact .inr hstep
      ·rename_i hw
       rw[if_neg hw] at hstep
       exact hk _ _ hstep
     ·rw[h1] at hd;cases hd
  exact all (l++[o1]) 0 fun i o h=>by rw[Nat.zero_add];exact h
 ·rintro a w (⟨h1,_⟩|⟨_,_,h3⟩)
  ·simp at h1
  ·exact h3
end Go.Proofs.YtokmjjkbginodaaGreatDoor
