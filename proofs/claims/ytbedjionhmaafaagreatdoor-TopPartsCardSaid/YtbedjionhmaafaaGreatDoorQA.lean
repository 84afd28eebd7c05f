/- QA: the texts ArV Mp If Rg SlX Pc Id Mc Ty, one behind the other. No condition but what each lemma says. -/
import Derived.Test.YtbedjionhmaafaaGreatDoorMC
import Derived.Maps.OwnSet
import Derived.Maps.Views
import Derived.Maps.Range
set_option linter.all false
namespace Go.Proofs.YtbedjionhmaafaaGreatDoor
open Go.RowKit
variable {m n:Nat} {z v:Value} {w:World} {bm:BM} {gt:Nat→Value} {fp:Nat→Nat→Prop} {P:Program} {M:Lit→Option Value} {u:AV}
section
variable {P:Program} {C:Cx} {o:Oper} {σ:AS} {t:Nat}
theorem Yz {ty e:TypeId} {ps:Array (Nat×Operand)} {d:TypeDesc} {N:Value} {sz j A J:Nat} {us:List (Nat×AV)} {cs:List AV} (L:o.op= .build ty ps) (R:o.dst=some t) (O:t<C.N) (E:TyOk P ty (.array m e) z sz j) (I:TyOk P e d N A J)
 (U:evP σ ps.toList=some us) (H:L3 (fun i=>some (i*A,A)) (z.cells.toList.map fun x=>AV.d (.v x)) us=some cs):Fp P C o σ (σ.put t (.agg cs)):=
 E1 R O fun a w bm gt fp W=>by
  obtain⟨Q,X⟩:=W.evP U
  obtain⟨b,F,Y,V⟩:=Vv us _ _ cs z.cells H Q X Ab (fun i x y g s=>by
   rw[Bk] at g
   simp only[Cg,s,Ch,A7] at g
   subst g
   exact .d (.v _))
  refine⟨.agg b,?_,?_⟩
  ·simp only[execOp,L,Instr.build]
   have h:(ps.map fun p=>(p.1,a.eval p.2)).toList=ps.toList.map fun p=>(p.1,a.eval p.2):=Ab
   simp only[Au,Bs,A6,E.zero,E.und,I.size,h,F]
  ·have:b=b.toList.toArray:=by simp
   rw[this]
   exact .agg _ (by rw[Bm,Y]) fun i x y g s=>V i x y g (by simpa using s)
theorem GV {xt e:TypeId} {x y:Operand} {us:List AV} {ki:IntKind} {j:Int} {d:TypeDesc} {by':Nat} (i:Nat) (ho:o.op= .index xt x y) (hd:o.dst=some t) (ht:t<C.N) (hx:σ.eval x=some (.agg us)) (hy:σ.eval y=some (.d (.v (.int ki j)))) (hT:P.underlying xt=some (.array m e)) (hE:TyOk P e d z 1 by') (hag:Om d=false)
 (hj:j=(i:Int)) (hi:i<m) (hu:us[i]?=some (.d (.v v))):Fp P C o σ (σ.put t (.d (.v v))):=
 E1 hd ht fun a w bm gt fp hg=>by
  have h1:=hg.eval hx
  have h2:=(hg.eval hy).val
  generalize hv:a.eval x=vx at h1
  cases h1 with
  |agg vs h4 h7=>
   have hlt:i<vs.length:=by rw[h4];exact(Ew.1 hu).1
   have h9:=(h7 i _ vs[i] hu (Ev hlt)).val
   refine⟨v,?_,.d (.v _)⟩
   subst hj
   have e1:(0:Int)≤(i:Int)∧(i:Int)<(m:Int):=Aa
   simp only[execOp,ho,hv,h2,Instr.index,asIntOf,part]
   simp[go_sem,Bf hT,hE.agg,hE.size,hag,e1,hlt,h9]
   exact fun h=>Bg h Aa
end
mutual
def AV.dull:AV→AV
 | .d x=> .d x
 | .ptr j o=> .ptr j o
 | .own j n sz e cs=> .own j n sz e cs
 | .agg cs=> .agg (I5 cs)
 | .tup cs=> .tup (I5 cs)
 | .sem _=> .sem fun _ _ _=>True
 | .cl f fs cs=> .cl f (I5 fs) (I5 cs)
 | .pk j o n sz=> .pk j o n sz
def I5:List AV→List AV
 |[]=>[]
 |c::r=>c.dull::I5 r
end
theorem Pv (l:List AV):I5 l=l.map AV.dull:=by
 induction l with
 |nil=>rfl
 |cons d r a=>rw[I5,a];rfl
theorem RA.dull {B:Nat} {fp:Nat→Nat→Prop} {w w':World} {bm:BM} {gt:Nat→Value} (F:∀b o,fp b o→w'.cell? ⟨b,o,none⟩=w.cell? ⟨b,o,none⟩) {u:AV} {v:Value} (h:RA B fp w bm gt u v):RA B fp w' bm gt u.dull v:=by
 have J:∀{l:List AV} {i:Nat} {u:AV},(I5 l)[i]?=some u→∃s,l[i]?=some s∧u=s.dull:=by
  intro l i u g
  rw[Pv,Bk,A8] at g
  obtain⟨s,j,E⟩:=g
  exact⟨s,j,E.symm⟩
 have a:∀l:List AV,(I5 l).length=l.length:=fun l=>by rw[Pv,Ba]
 induction h with
 |d h=>exact .d (h.keep (At _) (fun _ _ x=>x) F)
 |ptr=>exact .ptr
 |own h=>exact .own (h.keep (At _) (fun _ _ x=>x) F)
 |agg vs p H I=>
  refine .agg vs (by rw[a];exact p) fun i u v g A=> ?_
  grind
 |tup vs p H I=>
  refine .tup vs (by rw[a];exact p) fun i u v g A=> ?_
  grind
 |cl us vs L p Q H O N=>
  refine .cl us vs (by rw[a];exact L) (by rw[a];exact p) (fun i u v g A=> ?_) (fun i u v g A=> ?_)
  all_goals grind
 |pk j E=>exact .pk j E
 |sem j h=>exact .sem j fun _ _ _ _ _=>trivial
def duT:List (Nat×AV)→List (Nat×AV)
 |[]=>[]
 |(j,c)::r=>(j,c.dull)::duT r
def duB:List (Nat×List AV)→List (Nat×List AV)
 |[]=>[]
 |(j,c)::r=>(j,I5 c)::duB r
theorem PG {t:Nat} {u:AV}:∀{l:List (Nat×AV)},lk t (duT l)=some u→∃a,lk t l=some a∧u=a.dull
 |[],h=>by cases h
 |(j,c)::r,h=>by
  simp only[duT,lk] at h⊢
  cases b:Nat.beq j t with
  |true=>grind
  |false=>rw[b] at h;exact PG h
theorem cZ {t:Nat} {u:List AV}:∀{l:List (Nat×List AV)},lk t (duB l)=some u→∃a,lk t l=some a∧u=I5 a
 |[],h=>by cases h
 |(j,c)::r,h=>by
  simp only[duB,lk] at h⊢
  cases b:Nat.beq j t with
  |true=>grind
  |false=>rw[b] at h;exact cZ h
theorem gW {o:Nat} {a:Obj} (h:w.heap[m]?=some a) (b:∀cs e f,a≠ .cells cs e f):w.cell? ⟨m,o,none⟩=none:=by
 unfold World.cell?
 grind
theorem GG.mapTurn {C:Cx} {σ:AS} {a:Act} {w':World} (h:GG C bm gt fp σ a w) (hm:C.W.heap.size≤m) {ob L:Obj} (ho:w.heap[m]?=some ob) (hn:∀cs e f,ob≠ .cells cs e f) (ho':w'.heap[m]?=some L) (hn':∀cs e f,L≠ .cells cs e f) (p:w.grownBy w' (some m)):
 GG C bm gt fp ⟨duT σ.tm,duB σ.bx,σ.tk⟩ a w':=by
 have J:∀b o,fp b o→b<w.heap.size:=fun b o F=>(h.fpb b o F).2
 have hc:∀b o,fp b o→w'.cell? ⟨b,o,none⟩=w.cell? ⟨b,o,none⟩:=fun b o F=>by
  by_cases hb:b=m
  ·grind [gW]
  ·exact World.cell?_of_block (p.block b (J b o F) (fun e=>hb (Az e)))
 refine{sz:=h.sz,nN:=h.nN,gd:=h.gd,za:=h.za,zb:=h.zb,zf:=h.zf,ztk:=h.ztk,df:=h.df,tm:=fun t u O=> ?_,bx:=fun j c s=> ?_,bxi:=fun j V c c' s E R=> ?_,tk:=fun j n sz e s=> ?_,tki:=h.tki,tkb:=fun j V x c s E=> ?_,fpb:=fun b o F=>⟨(h.fpb b o F).1,Ci (J b o F) p.size⟩,fp0:=h.fp0,fpB:=h.fpB,bel:= ?_}
 ·obtain⟨u0,U,rfl⟩:=PG O
  obtain⟨v,X,k2⟩:=h.tm t u0 U
  exact⟨v,X,k2.dull hc⟩
 ·obtain⟨u0,U,rfl⟩:=cZ s
  have Q:=h.bx j u0 U
  obtain⟨I,e2,X,k2,k3⟩:=Q.obj
  have Z:bm j≠m:=fun R=>by grind
  refine⟨Q.own,Q.un,I,e2,(p.block _ Q.lt (fun e=>Z (Az e))).trans X,by rw[Pv,Ba];exact k2,fun i u v O Y=> ?_⟩
  rw[Pv,Bk,A8] at O
  obtain⟨u1,W,rfl⟩:=O
  exact(k3 i u1 v W Y).dull hc
 ·obtain⟨d,hd,-⟩:=cZ s
  obtain⟨d',A,-⟩:=cZ E
  exact h.bxi j V d d' hd A R
 ·have H:=h.tk j n sz e s
  obtain⟨xs,N⟩:=H.own
  refine⟨⟨xs,N.kept (row:=some m) p ?_⟩,H.tail⟩
  rcases N.2 with⟨hn,-⟩|⟨g,cap,cur,Y,-,hgg,-⟩
  ·left;rw[hn];rfl
  ·right
   rw[Y]
   intro R
   have e:g=m:=Az R
   grind
 ·obtain⟨d',A,-⟩:=cZ E
  exact h.tkb j V x d' s A
 ·exact h.bel.trans ⟨p.os,p.tape,p.output,p.size,fun i hi=>p.block i (Ci hi h.bel.size) (fun e=>by have:=Az e;omega)⟩
abbrev rdH (v:Value):Option (DataW Value×List MemPlace):=some (.held v,[])
def pY (P:Program) (k:TypeId) (w:World) (m n:Nat) (M:Lit→Option Value):Prop:=
 ∃D:DataW Value,w.ownsMap P k rdH m n D∧∀(l:Lit) (zd:DataW Value),WideAt.IsKeyLit l→Maps.has D l=(M l).isSome∧D.atKey l zd=(match M l with
  |some v=> .held v
  |none=>zd)
def oa (P:Program) (k:TypeId) (B m n:Nat) (M:Lit→Option Value):(Nat→Nat→Prop)→World→Value→Prop:=fun _ w v=>v= .map (some m)∧B≤m∧pY P k w m n M
abbrev Kl (P:Program) (k:TypeId) (B m n:Nat) (M:Lit→Option Value):AV:= .sem (oa P k B m n M)
theorem pY.nc {k:TypeId} {w':World} (h:pY P k w m n M) (b:NC w w'):pY P k w' m n M:=by
 obtain⟨D,⟨g,c,a,i⟩,d⟩:=h
 exact⟨D,⟨g,c,b m _ a (fun _ _ _ e=>by cases e),i⟩,d⟩
theorem br {k:TypeId} {B:Nat} {b:Nat} (d:B≤m) (h:pY P k w m n M):RA b fp w bm gt (Kl P k B m n M) (.map (some m)):= .sem rfl fun _ _ _ _ a=>⟨rfl,d,h.nc a⟩
theorem gY {k:TypeId} {B:Nat} {a:Nat} (h:RA a fp w bm gt (Kl P k B m n M) v):v= .map (some m)∧B≤m∧pY P k w m n M:=by
 cases h with
 |sem _ h=>exact h bm.z w (fun _ _ h=>h) (fun _ _ _=>rfl) (NC.refl w)
def F6 (M:Lit→Option Value) (l:Lit) (v:Value):Lit→Option Value:=fun l'=>bif l'.sameKey l then some v else M l'
section
variable {P:Program} {C:Cx} {o:Oper} {σ:AS} {t:Nat}
theorem Ku {T:TypeId} (k:TypeId) (h:o.op= .makeMap T none) (s:o.dst=some t) (i:t<C.N):J3 P C o σ (fun σ'=>∃m,σ'=σ.put t (Kl P k C.W.heap.size m 0 fun _=>none)):=by
 rintro a w ⟨bm,gt,fp,d⟩ K Q g
 have b:(execOp a.eval o).run P w= .ok (.value (.map (some w.heap.size))) (w.alloc (.map #[] 0)):=by
  simp only[execOp,h,Au,Bs,A6]
  rw[show Option.map a.eval none=none from rfl,run_makeMap];rfl
 have p:Below w.heap.size w (w.alloc (.map #[] 0)):=(Bq _ _).alloc (At _) _
 have j:=d.grow p
 unfold Oper.wp
 rw[b]
 refine g _ _ _ ⟨w.heap.size,rfl⟩ ⟨bm,gt,fp,?_⟩
 rw[s]
 exact j.put i (br d.bel.size ⟨.map [],World.ownsMap_made w P k rdH,fun l zd _=>⟨rfl,rfl⟩⟩)
variable {T k e:TypeId} {x y q:Operand} {B m n:Nat} {M:Lit→Option Value} {l:Lit} {key:Value}
theorem Km (L:o.op= .lookup T x y false) (I:o.dst=some t) (p:t<C.N) (F:σ.eval x=some (Kl P k B m n M)) (i:σ.eval y=some (.d (.v key)))
 (j:P.underlying T=some (.map k e)) (K:Maps.Keyed P k) (d:keyOf P k key=some l) (H:∀w,(zeroValue e).run P w= .ok z w) (J:∀B fp w bm gt,RA B fp w bm gt u ((M l).getD z)):Fp P C o σ (σ.put t u):=
 E1 I p fun a w bm gt fp g=>by
  obtain⟨N,-,D,h,E⟩:=gY (g.eval F)
  have A:=(g.eval i).val
  obtain⟨v,ps,b,s⟩:=h.lookup K j (H w) (zd:= .held z) (zp:=[]) rfl d
  rw[(E l (.held z) (K.key d)).2] at s
  refine⟨v,?_,?_⟩
  all_goals grind [execOp,Sem.run_bind,Sem.run_pure,Result.andThen_ok]
theorem Ja (Q:o.op= .lookup T x y true) (F:o.dst=some t) (A:t<C.N) (E:σ.eval x=some (Kl P k B m n M)) (H:σ.eval y=some (.d (.v key)))
 (I:P.underlying T=some (.map k e)) (K:Maps.Keyed P k) (h:keyOf P k key=some l) (N:∀w,(zeroValue e).run P w= .ok z w) (U:∀B fp w bm gt,RA B fp w bm gt u ((M l).getD z)):Fp P C o σ (σ.put t (.tup [u,.d (.v (.bool (M l).isSome))])):=
 E1 F A fun a w bm gt fp j=>by
  obtain⟨R,-,D,s,p⟩:=gY (j.eval E)
  have L:=(j.eval H).val
  obtain⟨v,ps,d,J⟩:=s.look_ok K I (N w) (zd:= .held z) (zp:=[]) rfl h
  rw[(p l (.held z) (K.key h)).2] at J
  rw[(p l (.held z) (K.key h)).1] at d
  refine⟨.tuple #[v,.bool (M l).isSome],?_,.tup [_,_] rfl fun i O v' b g=> ?_⟩
  ·grind [execOp,Sem.run_bind,Sem.run_pure,Result.andThen_ok]
  ·match i with
   |0=>
    grind
   |1=>simp at b g;subst b g;exact .d (.v _)
theorem Fk (O:List Nat) (ho:o.op= .mapUpdate T x y q) (Z:o.dst=none) (hx:σ.eval x=some (Kl P k C.W.heap.size m n M)) (hy:σ.eval y=some (.d (.v key))) (hq:σ.eval q=some u)
 (hu:∀B fp w bm gt v',RA B fp w bm gt u v'→v'=v) (hs:∀s∈O,lk s σ.tm=some (Kl P k C.W.heap.size m n M))
 (hT:P.underlying T=some (.map k e)) (K':Maps.Keyed P k) (hk:keyOf P k key=some l) (hn:n<maxLen):Fp P C o σ ⟨O.map (fun s=>(s,Kl P k C.W.heap.size m (n+1) (F6 M l v)))++duT σ.tm,duB σ.bx,σ.tk⟩:=by
 rintro a w ⟨bm,gt,fp,g⟩ K Q hK
 obtain⟨hv,V,D,A,h2⟩:=gY (g.eval hx)
 have I:=(g.eval hy).val
 have L:=hu _ _ _ _ _ _ (g.eval hq)
 have hI:=A.isMap
 obtain⟨w',i,W,N⟩:=A.update K' hT hn hk (val:=v) (d:= .held v) (ps:=[]) rfl
 have b:(execOp a.eval o).run P w= .ok .skip w':=by
  simp only[execOp,ho,hv,I,L,i,Au,Bs,A6]
 obtain⟨es,c,hw,-⟩:=A
 obtain⟨Y,c',F,-⟩:=id W
 have R:=g.mapTurn V hw (fun _ _ _ h=>by cases h) F (fun _ _ _ h=>by cases h) N
 have hM:pY P k w' m (n+1) (F6 M l v):=by
  refine⟨_,W,fun U zd j=> ?_⟩
  unfold F6
  by_cases e:U=l
  ·subst e
   rw[WideAt.sameKey_self j,cond_true]
   grind [Maps.has_put_same,Maps.atKey_put_same]
  ·rw[Dh.2 fun h=>e (WideAt.sameKey_eq h),cond_false,Maps.has_put_other e,Maps.atKey_put_other e]
   exact h2 U zd j
 unfold Oper.wp
 rw[b]
 refine hK _ _ ⟨bm,gt,fp,?_⟩
 rw[Z]
 refine{R with tm:=fun t E J=> ?_}
 rcases aL J with H|H
 ·have:∀{p:List Nat},(∀s∈p,lk s σ.tm=some (Kl P k C.W.heap.size m n M))→lk t (p.map fun s=>(s,Kl P k C.W.heap.size m (n+1) (F6 M l v)))=some E→lk t σ.tm=some (Kl P k C.W.heap.size m n M)∧E=Kl P k C.W.heap.size m (n+1) (F6 M l v):=by
   intro p
   induction p with
   |nil=>intro _ h;cases h
   |cons s r ih=>
    grind [lk,Nat.beq,Nat.eq_of_beq_eq_true,Option.some.inj]
  obtain⟨X,rfl⟩:=this hs H
  obtain⟨v1,k2,k3⟩:=g.tm t _ X
  obtain⟨rfl,-,-⟩:=gY k3
  exact⟨_,k2,br V hM⟩
 ·exact R.tm t E H
end
theorem G6 {C:Cx} {o:Oper} {tm:TM} {bx:BX} {tk:TK} {K:KS} (σ':AS) (h:NStep P C o tm bx tk (fun tm bx tk=>wkW tm bx tk σ')) (k:K σ'.tm σ'.bx σ'.tk):NStep P C o tm bx tk K:=by
 obtain⟨S,g,s⟩:=h
 refine⟨fun σ=>σ=σ',fun a w p A Q i=>g a w p A Q fun d j w' E b=>i σ' j w' rfl ((Uu (s d E)) _ _ _ b),?_⟩
 rintro _ rfl
 exact k
end Go.Proofs.YtbedjionhmaafaaGreatDoor
namespace Go.Proofs.YtbedjionhmaafaaGreatDoor
open Go.RowKit
variable {x:Operand} {v:Value} {f:FuncId} {fn:Func} {args:Array Operand} {ats:Array TypeId} {us c0:List AV} {P:Program} {w:World} {m r n cnt κ k off t:Nat} {left:Lit→Bool} {cur:Option (Value×Value)} {C:Cx} {o:Oper} {tm:TM} {bx:BX} {tk:TK} {K:KS} {σ:AS} {T:Tab} {rs:Array ResultVar} {Φ:AV→List AV→Prop}
section
variable {P:Program} {C:Cx} {o:Oper} {σ:AS} {t:Nat}
theorem lA {T:TypeId} {u:AV} (p:o.op= .makeInterface T x) (i:o.dst=some t) (d:t<C.N) (h:σ.eval x=some u) (b:∀B fp w bm gt v',RA B fp w bm gt u v'→v'=v) (j:∀w,(Instr.makeInterface T v).run P w= .ok (.iface T v) w):Fp P C o σ (σ.put t (.d (.v (.iface T v)))):=
 E1 i d fun a w bm gt fp g=>by
  have s:=b _ _ _ _ _ _ (g.eval h)
  exact⟨_,by grind [execOp,Sem.run_bind,Sem.run_pure,Result.andThen_ok],.d (.v _)⟩
theorem GW {c:Code} {r:Operand} {name:String} {j:AV} {T:TypeId} {v':Value} {S:AS→Prop} (H:o.op= .call {callee:= .invoke r name,args:=args,argTypes:=ats}) (J:∀t,o.dst=some t→t<C.N)
 (W:σ.eval r=some (.d (.v (.iface T v)))) (U:evL σ args.toList=some us) (I:∀w,(method (P.types.size+Made.depth) T v name).run P w= .ok (f,v') w) (Z:∀B fp w bm gt,RA B fp w bm gt j v') (X:∀d w,(callFunc f d).run P w= .ok (.enter f d) w) (A:P.funcs[f]?=some fn) (Y:fn.body=some c) (O:fn.results.size≤4) (F:(j::us).length≤fn.ntmps) (g:fn.ntmps≤1000000)
 (h:∀R,G3 P ⟨C.W,C.fp0,fn.ntmps,R,C.z0⟩ c (mV P fn.results.toList o.dst S) ⟨inT (j::us) σ.tm,σ.bx,σ.tk⟩):J3 P C o σ S:=by
 rintro a w ⟨bm,gt,fp,p⟩ K Q s
 obtain⟨hl,E⟩:=p.evA U
 have N:=(p.eval W).val
 have b:(execOp a.eval o).run P w= .ok (.enter f (v'::args.toList.map a.eval).toArray) w:=by
  obtain⟨l⟩:=args
  simp[execOp,H,resolve,invoke,callMethod,N,Au,Bs,A6,I,X]
  exact B3 Ab
 unfold Oper.wp
 rw[b]
 refine aN p J A Y O F g (by simp only[D9];omega) (fun i u v2 V L=> ?_) h s
 grind
end
section
variable {P:Program} {C:Cx} {T:Tab} {o:Oper} {tm:TM} {bx:BX} {tk:TK}
end
def fo:Value→AV
 | .agg cs=> .agg (cs.toList.map fun v=> .d (.v v))
 |v=> .d (.v v)
theorem AZ (B:Nat) (fp:Nat→Nat→Prop) (w:World) (bm:BM) (gt:Nat→Value) (v:Value):RA B fp w bm gt (fo v) v:=by
 cases v with
 |agg cs=>
  show RA B fp w bm gt (.agg (cs.toList.map fun v=> .d (.v v))) (.agg cs)
  have:=RA.agg (B:=B) (fp:=fp) (w:=w) (bm:=bm) (gt:=gt) (cs:=cs.toList.map fun v=> .d (.v v)) cs.toList Ab fun i u v a b=>by
   rw[Bk,b] at a
   cases a
   exact .d (.v _)
  simpa using this
 |_=>exact .d (.v _)
def XR (P:Program) (r:Nat) (cur:Option (Value×Value)) (w:World):Prop:=∀p,cur=some p→(Instr.entry (.pointer (some ⟨r,0,none⟩))).run P w= .ok (.tuple #[p.1,p.2]) w
def l7 (P:Program) (k:TypeId) (B m r n:Nat) (M:Lit→Option Value) (left:Lit→Bool) (cnt:Nat) (cur:Option (Value×Value)):(Nat→Nat→Prop)→World→Value→Prop:=fun _ w v=>v= .pointer (some ⟨r,0,none⟩)∧B≤r∧(∃D:DataW Value,w.ranges P k rdH m r n D left cnt∧∀(l:Lit) (zd:DataW Value),WideAt.IsKeyLit l→D.atKey l zd=(match M l with
    |some v=> .held v
    |none=>zd))∧XR P r cur w
abbrev itA (P:Program) (k:TypeId) (B m r n:Nat) (M:Lit→Option Value) (left:Lit→Bool) (cnt:Nat) (cur:Option (Value×Value)):AV:= .sem (l7 P k B m r n M left cnt cur)
theorem GX {k:TypeId} {w':World} {D:DataW Value} (h:w.ranges P k rdH m r n D left cnt) (a:NC w w'):w'.ranges P k rdH m r n D left cnt:=by
 obtain⟨i,c,s,E,c0,b,p,d,g,A,j⟩:=h
 exact⟨i,c,s,E,c0,a m _ b (fun _ _ _ e=>by cases e),p,d,g,a r _ A (fun _ _ _ e=>by cases e),j⟩
theorem XS {k:TypeId} {w':World} {D:DataW Value} (h:w.ranges P k rdH m r n D left cnt) (F:XR P r cur w) (i:NC w w'):XR P r cur w':=by
 intro p j
 have a:=F p j
 obtain⟨A,c,s,E,c0,b,O,J,L,d,N⟩:=h
 have H:=i m _ b (fun _ _ _ e=>by cases e)
 have I:=i r _ d (fun _ _ _ e=>by cases e)
 cases g:E.back? with
 |none=>
  simp only[Instr.entry,getObj,Au,Sem.run,b,d,g,Result.andThen] at a
  cases a
 |some st=>
  simp only[Instr.entry,getObj,Au,Sem.run,b,d,g,Result.andThen] at a
  simp only[Instr.entry,getObj,Au,Sem.run,H,I,g,Result.andThen]
  revert a
  cases (c !=c0) with
  |true=>intro a;cases a
  |false=>
   simp only[Ck,if_false]
   cases A.find? (fun x=>x.born==st) with
   |none=>intro a;cases a
   |some e=>
    simp_all
theorem bs {k:TypeId} {B:Nat} {M:Lit→Option Value} {D:DataW Value} {d:Nat} {fp:Nat→Nat→Prop} {bm:BM} {gt:Nat→Value} (g:B≤r) (h:w.ranges P k rdH m r n D left cnt) (i:∀(l:Lit) (zd:DataW Value),WideAt.IsKeyLit l→D.atKey l zd=(match M l with
 |some v=> .held v
 |none=>zd)) (b:XR P r cur w):RA d fp w bm gt (itA P k B m r n M left cnt cur) (.pointer (some ⟨r,0,none⟩)):= .sem rfl fun _ _ _ _ a=>⟨rfl,g,⟨D,GX h a,i⟩,XS h b a⟩
section
variable {P:Program} {C:Cx} {o:Oper} {σ:AS} {t:Nat}
theorem pZ {T k e:TypeId} {B:Nat} {M:Lit→Option Value} (H:o.op= .range T x) (L:o.dst=some t) (I:t<C.N) (J:σ.eval x=some (Kl P k B m n M)) (U:P.underlying T=some (.map k e)) (W:Maps.Keyed P k):
 J3 P C o σ (fun σ'=>∃r cnt left,(∀l,WideAt.IsKeyLit l→left l=(M l).isSome)∧σ'=σ.put t (itA P k C.W.heap.size m r n M left cnt none)):=by
 rintro a w ⟨bm,gt,fp,j⟩ K Q F
 obtain⟨N,-,D,E,A⟩:=gY (j.eval J)
 obtain⟨w',g,R,b,Y⟩:=E.range W U
 have d:(execOp a.eval o).run P w= .ok (.value (.pointer (some ⟨w.heap.size,0,none⟩))) w':=by
  simp only[execOp,H,N,g,Au,Bs,A6]
 have X:Below w.heap.size w w':=⟨b.os,b.tape,b.output,b.size,fun i V=>b.block i V Ab⟩
 have s:=j.grow X
 unfold Oper.wp
 rw[d]
 refine F _ _ _ ⟨w.heap.size,Maps.size D,Maps.has D,fun l h=>(A l (.held undef) h).1,rfl⟩ ⟨bm,gt,fp,?_⟩
 rw[L]
 exact s.put I (bs j.bel.size R (fun l zd h=>(A l zd h).2) fun p O=>by cases O)
theorem BA {u b:AV} {t:Nat} {w:AV} {tm:TM}:∀{l:List Nat},(∀s∈l,lk s tm=some u)→lk t (l.map fun s=>(s,b))=some w→lk t tm=some u∧w=b
 |[],_,h=>by cases h
 |s::r,ha,h=>by
  simp only[Bc,lk] at h
  cases g:Nat.beq s t with
  |true=>
   simp_all
  |false=>rw[g] at h;exact BA (fun d a=>ha d (by simp[a])) h
theorem vS {k:TypeId} {M:Lit→Option Value} (I:List Nat) (ho:o.op= .next x false) (hd:o.dst=some t) (ht:t<C.N) (hx:σ.eval x=some (itA P k C.W.heap.size m r n M left cnt cur)) (hs:∀s∈I,lk s σ.tm=some (itA P k C.W.heap.size m r n M left cnt cur)) (N:Maps.Keyed P k):
 J3 P C o σ (fun σ'=>(cnt=0∧(∀l,left l=false)∧σ'=σ.put t (.tup [.d (.v (.bool false))]))∨∃key v kl d,keyOf P k key=some kl∧left kl=true∧M kl=some v∧d<cnt∧
  σ'=⟨(t,.tup [.d (.v (.bool true)),.d (.v key),fo v])::(I.map (fun s=>(s,itA P k C.W.heap.size m r n M (fun l=>left l&& !l.sameKey kl) d (some (key,v))))++duT σ.tm),duB σ.bx,σ.tk⟩):=by
 rintro a w ⟨bm,gt,fp,H⟩ K Q hK
 have E:∀{v:Value},RA C.W.heap.size fp w bm gt (itA P k C.W.heap.size m r n M left cnt cur) v→l7 P k C.W.heap.size m r n M left cnt cur bm.z w v:=fun h=>by
  cases h with
  |sem _ h=>exact h bm.z w (fun _ _ h=>h) (fun _ _ _=>rfl) (NC.refl w)
 obtain⟨hv,hB,⟨D,Z,X⟩,-⟩:=E (H.eval hx)
 unfold Oper.wp
 rcases Z.next N o.type with⟨c0,hl,A⟩|⟨key,v,kl,y,w',d,W,e2,e3,e4,A,h3,e5,Y,hsz,V⟩
 ·have g:(execOp a.eval o).run P w= .ok (.value (.tuple #[.bool false])) w:=by
   simp only[execOp,ho,hv,A,Au,Bs,A6]
  rw[g]
  refine hK _ _ _ (.inl ⟨c0,hl,rfl⟩) ⟨bm,gt,fp,?_⟩
  rw[hd]
  exact H.put ht (.tup [_] rfl fun i J v' b j=>by
   match i with
   |0=>simp at b j;subst b j;exact .d (.v _))
 ·have g:(execOp a.eval o).run P w= .ok (.value (.tuple #[.bool true,key,v])) w':=by
   simp only[execOp,ho,hv,A,Au,Bs,A6]
  have O:M kl=some v:=by
   have hy:y.1= .held v:=by cases e3;rfl
   cases F:M kl with
   |none=>
    have:=e4 (.map [])
    rw[X kl _ (N.key W),F,hy] at this
    cases this
   |some v0=>
    have:=e4 (.map [])
    rw[X kl _ (N.key W),F,hy] at this
    cases this;rfl
  obtain⟨_,_,_,_,_,_,_,_,_,hr,-⟩:=id Z
  obtain⟨_,_,_,_,_,_,_,_,_,R,-⟩:=id h3
  have F:=H.mapTurn hB hr (fun _ _ _ h=>by cases h) R (fun _ _ _ h=>by cases h) Y
  rw[g]
  refine hK _ _ _ (.inr ⟨key,v,kl,d,W,e2,O,e5,rfl⟩) ⟨bm,gt,fp,?_⟩
  rw[hd]
  have U:GG C bm gt fp ⟨I.map (fun s=>(s,itA P k C.W.heap.size m r n M (fun l=>left l&& !l.sameKey kl) d (some (key,v))))++duT σ.tm,duB σ.bx,σ.tk⟩ a w':=by
   refine{F with tm:=fun t J b=> ?_}
   rcases aL b with L|L
   ·obtain⟨k1,rfl⟩:=BA hs L
    obtain⟨v1,k2,k3⟩:=H.tm t _ k1
    obtain⟨rfl,-,-,-⟩:=E k3
    exact⟨_,k2,bs hB h3 X fun p hp=>by cases hp;exact V⟩
   ·exact F.tm t J L
  exact U.put ht (.tup [_,_,_] rfl fun i J v' b j=>by
   match i with
   |0=>simp at b j;subst b j;exact .d (.v _)
   |1=>simp at b j;subst b j;exact .d (.v _)
   |2=>grind [AZ])
theorem Va {k:TypeId} {M:Lit→Option Value} {key:Value} (j:o.op= .entry x) (E:o.dst=some t) (p:t<C.N) (A:σ.eval x=some (itA P k C.W.heap.size m r n M left cnt (some (key,v)))):Fp P C o σ (σ.put t (.tup [.d (.v key),fo v])):=
 E1 E p fun a w bm gt fp s=>by
  have h:=s.eval A
  generalize F:a.eval x=u at h
  cases h with
  |sem _ h=>
   obtain⟨rfl,-,-,g⟩:=h bm.z w (fun _ _ h=>h) (fun _ _ _=>rfl) (NC.refl w)
   refine⟨.tuple #[key,v],by simp only[execOp,j,F,g _ rfl,Au,Bs,A6],.tup [_,_] rfl fun i H v' b d=> ?_⟩
   match i with
   |0=>simp at b d;subst b d;exact .d (.v _)
   |1=>grind [AZ]
end
section
variable {P:Program} {C:Cx} {o:Oper} {σ:AS} {t:Nat}
theorem dA {st e:TypeId} {ps:Array (Nat×Operand)} {d:TypeDesc} {z zS:Value} {sz by' s2 b2:Nat} {us:List (Nat×AV)} {cs:List AV} (κ:Nat) (ho:o.op= .buildSlice st n ps) (hd:o.dst=some t) (ht:t<C.N) (hT:TyOk P st (.slice e) zS s2 b2) (hE:TyOk P e d z sz by')
 (hp:evP σ ps.toList=some us) (hf:L3 (fun i=>some (i*sz,sz)) ((List.range (n*sz)).map fun i=>AV.d (.v (z.cells[i%z.cells.size]!))) us=some cs) (hn:n*sz≤1000) (hn2:n≤1000) (hc:σ.clean κ=true) (hcc:Fu κ cs=true):
 Fp P C o σ ⟨(t,.pk κ 0 n sz)::σ.tm,(κ,cs)::σ.bx,σ.tk⟩:=by
 rintro a w ⟨bm,gt,fp,hg⟩ K Q hK
 obtain⟨k1,k2⟩:=hg.evP hp
 obtain⟨zc,hzc⟩:∃zc:Array Value,(if n*sz=0 then #[] else z.cells)=zc:=⟨_,rfl⟩
 obtain⟨c0,hc0⟩:∃c0:Array Value,(Array.range (n*sz)).map (fun i=>zc[i%zc.size]!)=c0:=⟨_,rfl⟩
 have hc0l:c0.toList=(List.range (n*sz)).map fun i=>z.cells[i%z.cells.size]!:=by
  rw[←hc0]
  by_cases h0:n*sz=0
  ·simp[h0]
  ·rw[Ai h0] at hzc
   subst hzc
   simp[Array.toList_range]
 obtain⟨cells',h1,h2,h3⟩:=Vv us _ _ cs c0 hf k1 k2 (by grind) (fun i x y hx hy=>by
  rw[←Cg,hc0l] at hy
  rw[Bk,A8] at hx
  obtain⟨j,hj,rfl⟩:=hx
  rw[Bk,hj] at hy
  simp only[Ch,A7] at hy
  subst hy
  exact .d (.v _))
 have hcl:cells'.size=n*sz:=by
  have:us.length=us.length:=rfl
  have hfl:∀(ps:List (Nat×AV)) (cs us:List AV),L3 (fun i=>some (i*sz,sz)) cs ps=some us→us.length=cs.length:=by
   intro ps
   induction ps with
   |nil=>intro cs us h;cases h;rfl
   |cons p r ih=>
    intro cs us h
    obtain⟨i,u⟩:=p
    unfold L3 at h
    simp only at h
    cases hcond:(u.flat&&Nat.beq u.cells.length sz&&Nat.ble (i*sz+sz) cs.length) with
    |false=>rw[hcond] at h;cases h
    |true=>
     rw[hcond] at h
     simp only[Et] at hcond
     grind [Mo,Nat.eq_of_beq_eq_true,Nat.le_of_ble_eq_true]
  rw[h2,hfl _ _ _ hf];simp
 have hrun:(execOp a.eval o).run P w= .ok (.value (.slice (some ⟨w.heap.size,0,none⟩) n n)) (w.alloc (.cells cells' e)):=by
  simp only[execOp,ho,Instr.buildSlice]
  have hps:(ps.map fun p=>(p.1,a.eval p.2)).toList=ps.toList.map fun p=>(p.1,a.eval p.2):=Ab
  have hlim:¬(n*sz>2^24):=Aa
  simp only[Au,Bs,A6,hT.und,hE.size,Ai hlim]
  by_cases h0:n*sz=0
  ·rw[Aj h0] at hzc
   subst hzc
   simp only[Aj h0,Au,Bs,A6,hps,hc0,h1,newRow,newObj,Sem.run]
   simp[go_sem]
  ·rw[Ai h0] at hzc
   subst hzc
   simp only[Ai h0,Au,Bs,A6,hE.zero,hps,hc0,h1,newRow,newObj,Sem.run]
   simp[go_sem]
 unfold Oper.wp
 rw[hrun,Oper.upon_value,hd]
 have h5:=hg.newBox (k:=κ) hc (cs:=cs) (cur:=cells') (e:=e) hcc (by rw[h2];exact At _) (fun i u v hu hv=>h3 i u v hu hv)
 have h4:=h5.put (t:=t) (u:= .pk κ 0 n sz) ht (.pk (At n) (by unfold maxLen;omega))
 rw[I2] at h4
 exact hK _ _ ⟨_,_,_,h4⟩
end
theorem Fx {L:TM} {B:BX} (h:Fp P C o ⟨tm,bx,tk⟩ ⟨L,B,tk⟩) (k:G9 L fun tm'=>G9 B fun a=>K tm' a tk):NStep P C o tm bx tk K:=Cs h (Gg (K:=fun a=>K L a tk) (Gg (K:=fun tm'=>G9 B fun a=>K tm' a tk) k))
def jnS (tm:TM) (bx:BX) (tk:TK) (d:Option Nat) (r:AV) (k:Nat) (c:List AV):AS:=⟨match d with
 |some t=>(t,r)::tm
 |none=>tm,(k,c)::bx,tk⟩
structure CfT (off:Nat) (tm:TM):Prop where
 h:∀κ,off≤κ→clT κ tm=true
structure CfB (off:Nat) (bx:BX):Prop where
 h:∀κ,off≤κ→clB κ bx=true∧lk κ bx=none
structure CfQ (off:Nat) (tk:TK):Prop where
 h:∀κ,off≤κ→lk κ tk=none
structure CF (off:Nat) (tm:TM) (bx:BX) (tk:TK):Prop where
 t:CfT off tm
 b:CfB off bx
 q:CfQ off tk
mutual
def AV.und (n:Nat):AV→Bool
 | .d _=>true
 | .ptr j _=>Nat.blt j n
 | .own j _ _ _ _=>Nat.blt j n
 | .agg cs=>J8 n cs
 | .tup cs=>J8 n cs
 | .sem _=>true
 | .cl _ fs cs=>J8 n fs&&J8 n cs
 | .pk j _ _ _=>Nat.blt j n
def J8 (n:Nat):List AV→Bool
 |[]=>true
 |c::r=>c.und n&&J8 n r
end
theorem dB {j:Nat} (h:Nat.blt j n=true) (b:n≤κ):Nat.beq j κ=false:=by
 cases a:Nat.beq j κ with
 |false=>rfl
 |true=>have:=Xi h;have:=Aw a;omega
mutual
theorem gZ {n κ:Nat} (a:n≤κ):∀{u:AV},u.und n=true→u.clean κ=true
 | .d _,_=>rfl
 | .ptr _ _,h=>by unfold AV.clean;rw[dB h a];rfl
 | .own _ _ _ _ _,h=>by unfold AV.clean;rw[dB h a];rfl
 | .agg _,h=>by unfold AV.clean;exact M2 a h
 | .tup _,h=>by unfold AV.clean;exact M2 a h
 | .sem _,_=>rfl
 | .cl _ _ _,h=>by
   simp only[AV.und,Et] at h
   unfold AV.clean
   rw[M2 a h.1,M2 a h.2];rfl
 | .pk _ _ _ _,h=>by unfold AV.clean;rw[dB h a];rfl
theorem M2 {n κ:Nat} (a:n≤κ):∀{l:List AV},J8 n l=true→Fu κ l=true
 |[],_=>rfl
 |_::_,h=>by
  simp only[J8,Et] at h
  unfold Fu
  rw[gZ a h.1,M2 a h.2];rfl
end
section
variable {n m t M:Nat} {u:AV} {c:List AV} {tm:TM} {bx:BX} {tk:TK}
theorem CfT.nil:CfT n []:=⟨fun _ _=>rfl⟩
theorem CfT.cons (h:u.und n=true) (r:CfT n tm):CfT n ((t,u)::tm):=⟨fun κ a=>by grind [clT,gZ,h]⟩
theorem vT {κ M:Nat}:∀{tm:TM},clT κ (ghM M tm)=clT κ tm
 |[]=>rfl
 |(_,_)::r=>by unfold ghM clT;rw[vT (tm:=r)]
theorem CfT.gh (h:CfT n tm) (a:Nat.ble n m=true:=by rfl):CfT m (ghM M tm):=⟨fun κ b=>by rw[vT];exact h.h κ (Bi (Ay a) b)⟩
theorem CfT.up (h:CfT n tm) (a:Nat.ble n m=true:=by rfl):CfT m tm:=⟨fun κ b=>h.h κ (Bi (Ay a) b)⟩
theorem fq (h:CfT n tm) (a:Nat.ble n κ=true:=by rfl):clT κ (ghM M tm)=true:=by rw[vT];exact h.h κ (Ay a)
theorem fr (h:CfB n bx) (a:Nat.ble n κ=true:=by rfl):clB κ bx=true:=(h.h κ (Ay a)).1
theorem dC {b:Bool} {A B:Prop} (h:b=true) (a:A):(bif b then A else B):=by subst h;exact a
theorem CfB.nil:CfB n []:=⟨fun _ _=>⟨rfl,rfl⟩⟩
theorem CfB.cons (b:Nat.blt t n=true) (h:J8 n c=true) (r:CfB n bx):CfB n ((t,c)::bx):=⟨fun κ a=>⟨by grind [clB,M2,h],by unfold lk;rw[dB b a];exact(r.h κ a).2⟩⟩
theorem CfB.up (h:CfB n bx) (a:Nat.ble n m=true:=by rfl):CfB m bx:=⟨fun κ b=>h.h κ (Bi (Ay a) b)⟩
theorem CfQ.nil:CfQ n []:=⟨fun _ _=>rfl⟩
theorem CfQ.cons {x:Nat×Nat×TypeId} (b:Nat.blt t n=true) (r:CfQ n tk):CfQ n ((t,x)::tk):=⟨fun κ a=>by unfold lk;rw[dB b a];exact r.h κ a⟩
theorem CfQ.up (h:CfQ n tk) (a:Nat.ble n m=true:=by rfl):CfQ m tk:=⟨fun κ b=>h.h κ (Bi (Ay a) b)⟩
inductive TlT (tm:TM):TM→Prop
 |nil:TlT tm (ghM 1000000 tm)
 |cons {t:Nat} {u:AV} {l:TM} (ht:Nat.blt t 1000000=true) (h:TlT tm l):TlT tm ((t,u)::l)
inductive TlB (k n:Nat) (bx:BX):BX→Prop
 |nil:TlB k n bx bx
 |cons {t:Nat} {c:List AV} {l:BX} (ht:(Nat.beq t k||Nat.ble n t)=true) (h:TlB k n bx l):TlB k n bx ((t,c)::l)
inductive TlQ (n:Nat) (tk:TK):TK→Prop
 |nil:TlQ n tk tk
 |cons {t:Nat} {x:Nat×Nat×TypeId} {l:TK} (ht:Nat.ble n t=true) (h:TlQ n tk l):TlQ n tk ((t,x)::l)
theorem qA {M:Nat}:∀{tm:TM},Uj M (ghM M tm)=tm
 |[]=>rfl
 |(t,u)::r=>by
  have a:Nat.ble M (t+M)=true:=Nat.ble_eq_true_of_le Aa
  simp only[ghM,Uj,a,Cj]
  rw[qA (tm:=r)]
theorem TlT.back {l:TM} (h:TlT tm l):Uk l=tm:=by
 induction h with
 |nil=>exact qA
 |@cons t u l b _ d=>
  have a:Nat.ble 1000000 t=false:=by
   cases a:Nat.ble 1000000 t with
   |false=>rfl
   |true=>have:=Ay a;have:=Xi b;omega
  grind [Uk,Uj]
theorem TlB.lk {k n j:Nat} {l:BX} {c:List AV} (g:CfB n bx) (h:TlB k n bx l) (p:Nat.beq k j=false) (b:lk j bx=some c):Go.Proofs.YtbedjionhmaafaaGreatDoor.lk j l=some c:=by
 induction h with
 |nil=>exact b
 |@cons t c' l a _ d=>
  have:Nat.beq t j=false:=by
   cases i:Nat.beq t j with
   |false=>rfl
   |true=>
    have e:=Aw i
    subst e
    rw[Co] at a
    rcases a with a|a
    ·simp_all
    ·rw[(g.h t (Ay a)).2] at b;cases b
  simp only[Go.Proofs.YtbedjionhmaafaaGreatDoor.lk,this]
  exact d
theorem TlQ.lk {n j:Nat} {l:TK} {x:Nat×Nat×TypeId} (d:CfQ n tk) (h:TlQ n tk l) (a:lk j tk=some x):Go.Proofs.YtbedjionhmaafaaGreatDoor.lk j l=some x:=by
 induction h with
 |nil=>exact a
 |@cons t c' l g _ b=>
  have:Nat.beq t j=false:=by
   cases i:Nat.beq t j with
   |false=>rfl
   |true=>
    have e:=Aw i
    subst e
    rw[d.h t (Ay g)] at a;cases a
  simp only[Go.Proofs.YtbedjionhmaafaaGreatDoor.lk,this]
  exact b
end
structure PcW (k off:Nat) (Φ:AV→List AV→Prop) (tm:TM) (bx:BX) (tk:TK) (u:AV) (tm':TM) (bx':BX) (tk':TK):Prop where
 h:∃r c1 c2,Φ r c1∧leW u r∧lk k bx'=some c2∧Sp c2 c1
 t:TlT tm tm'
 b:TlB k off bx bx'
 q:TlQ off tk tk'
noncomputable def pcK (T:Tab) (rs:Array ResultVar) (k off:Nat) (Φ:AV→List AV→Prop) (tm:TM) (bx:BX) (tk:TK):KS:=fun tm' bx' tk'=>nC T tm' bx' rs.toList (fun us=>PcW k off Φ tm bx tk (single us) tm' bx' tk')
def PC (P:Program) (f:FuncId) (k off:Nat) (us c0:List AV) (Φ:AV→List AV→Prop):Prop:=
 ∃fn c,P.funcs[f]?=some fn∧(∀xs0 w,(callFunc f xs0).run P w= .ok (.enter f xs0) w)∧fn.body=some c∧fn.results.size≤4∧us.length≤fn.ntmps∧fn.ntmps≤1000000∧
  ∀W fp0 z0 gh tm bx tk d,lk k bx=some c0→CF off tm bx tk→G3 P ⟨W,fp0,fn.ntmps,gh,z0⟩ c (mV P fn.results.toList d (fun σ=>∃r c1,Φ r c1∧Ent σ (jnS tm bx tk d r k c1))) ⟨inT us tm,bx,tk⟩
noncomputable def apF {α:Type} (l X:List α) (K:List α→Prop):Prop:=@List.rec α (fun _=>(List α→Prop)→Prop) (fun K=>K X) (fun x _ ih K=>ih (fun ys=>K (x::ys))) l K
theorem PH {a:Type} {X:List a}:∀{l:List a} {K:List a→Prop},apF l X K→K (l++X)
 |[],_,h=>h
 |x::r,K,h=>PH (l:=r) (K:=fun b=>K (x::b)) h
theorem GY {c:Code} {Φ:Exit→AS→Prop} {σ':AS} (h:G3 P C c Φ σ') (e:Ent σ σ'):G3 P C c Φ σ:=fun a w b=>h a w (e _ _ _ b)
theorem PI (R:TabOk P T) {tm':TM} {i:BX} {b:TK} {d:Option Nat} (H:CF off tm bx tk) (h:pcK T rs k off Φ tm bx tk tm' i b):
 ∃us,Oo P ⟨tm',i,b⟩ rs.toList us∧∃r A,Φ r A∧Ent ((AS.mk tm' i b).ret d (single us)) (jnS tm bx tk d r k A):=by
 obtain⟨us,J,E⟩:=Us (tk:=b) R h
 obtain⟨r,A,O,V,N,L,Q⟩:=E.h
 refine⟨us,J,r,A,V,fun C a w U=>U.weak ⟨fun t s p=> ?_,fun j c g=> ?_,fun j x g=>E.q.lk H.q g⟩⟩
 ·have I:=E.t.back
  cases d with
  |none=>exact⟨s,by show lk t (Uk tm')=_;rw[I];exact p,.refl s⟩
  |some F=>
   have p:lk t ((F,r)::tm)=some s:=p
   by_cases e:F=t
   ·subst e
    rw[F1] at p
    cases p
    exact⟨_,F1 _ _ _,aP N⟩
   ·rw[Gm _ _ e] at p
    exact⟨s,by show lk t ((F,_)::Uk tm')=_;rw[Gm _ _ e,I];exact p,.refl s⟩
 ·have g:lk j ((k,A)::bx)=some c:=g
  by_cases e:k=j
  ·subst e
   rw[F1] at g
   cases g
   exact⟨O,L,Pm Q⟩
  ·rw[Gm _ _ e] at g
   refine⟨c,E.b.lk H.b ?_ g,Ln c⟩
   grind [Nat.beq,absurd,Nat.eq_of_beq_eq_true]
theorem bt {c:Code} (off N:Nat) (rs:Array ResultVar) (i:TabOk P T) (O:P.follows .mixedOrders=true) (I:P.funcs[f]?=some fn) (L:fn.ntmps=N) (E:(fn.name== "runtime.NumGoroutine")=false) (J:fn.body=some c) (U:fn.results=rs) (Q:Nat.ble rs.size 4=true) (p:(Nat.ble us.length N&&Nat.ble N 1000000)=true)
 (h:∀W fp0 s A tm bx tk,CfT off tm→CfB off bx→CfQ off tk→apF (J4 0 us) (ghM 1000000 tm) (fun l=>Ki P ⟨W,fp0,N,A,s⟩ ⟨T.ty,T.fd,T.st,T.mu,off⟩ c (pcK T rs k off Φ tm bx tk) (fun _ _ _ _=>False) (pcK T rs k off Φ tm bx tk) l ((k,c0)::bx) tk)):PC P f k off us c0 Φ:=by
 subst U L
 simp only[Et] at p
 refine⟨fn,c,I,P2 I E J,J,leN Q,leN p.1,leN p.2,fun W fp0 s A tm bx tk d X g=> ?_⟩
 have F:=PH (h W fp0 s A tm bx tk g.t g.b g.q)
 have V:=Tj (T:=⟨T.ty,T.fd,T.st,T.mu,off⟩) ⟨i.ty,i.fd,i.st⟩ O c _ _ _ _ _ _ F
 refine GY (I7 V fun e σ b=> ?_) (σ':=⟨J4 0 us++ghM 1000000 tm,(k,c0)::bx,tk⟩) fun C a w F=>F.weak ⟨fun t u R=>⟨u,R,.refl u⟩,fun j c H=>⟨c,?_,Ln c⟩,fun j x H=>H⟩
 ·cases e with
  |normal=>exact PI i g b
  |exit id=>exact False.elim b
  |ret=>exact PI i g b
  |goto l=>exact b.elim
  |panic c=>exact b.elim
  |_=>first|exact b.elim|exact b
 grind [F1,Gm]
theorem Eb {i:Nat} (b:o.op= .nilCheck x) (p:o.dst=some t) (d:t<C.N) (j:σ.eval x=some (.ptr k i)):Fp P C o σ (σ.put t (.ptr k i)):=
 E1 p d fun a w bm gt fp g=>by
  have h:=g.eval j
  generalize s:a.eval x=v at h
  cases h with
  |ptr=>exact⟨_,by simp only[execOp,b,s];rfl,.ptr⟩
theorem Hk {i:Nat} (a:o.op= .nilCheck x) (h:o.dst=some t) (d:t<C.N) (g:σ.eval x=some (.ptr k i)):LA P C o ⟨[],some (t,.ptr k i),none,none,[],[],[],[]⟩ σ:=fun _ b _ _=>
 Eb a h d (tr b (by rw[a];simp[Op.operands]) g)
section
variable {P:Program} {C:Cx} {o:Oper} {tm:TM} {bx:BX} {tk:TK} {K:KS} {f:FuncId} {k off:Nat} {us c0:List AV} {Φ:AV→List AV→Prop}
theorem NStep.pcS {S:AS→Prop} (F:J3 P C o ⟨tm,bx,tk⟩ (fun σ=>∃r b,Φ r b∧Ent σ (jnS tm bx tk o.dst r k b))) (j:∀r b,Φ r b→K (jnS tm bx tk o.dst r k b).tm ((k,b)::bx) tk):NStep P C o tm bx tk K:=by
 refine⟨fun σ=>∃r b,Φ r b∧σ=jnS tm bx tk o.dst r k b,fun a w s E Q h=>F a w s E Q fun p i w' d g=> ?_,?_⟩
 ·obtain⟨r,b,d,A⟩:=d
  exact h _ i w' ⟨r,b,d,rfl⟩ (A _ _ _ g)
 ·rintro _ ⟨r,b,d,rfl⟩
  exact j r b d
theorem XT (h:PC P f k off us c0 Φ) (E:o.op= .call {callee:= .value (.func f),args:=args,argTypes:=ats}) (p:Sn o.dst C.N=true) (i:evL ⟨tm,bx,tk⟩ args.toList=some us) (j:lk k bx=some c0) (A:CF off tm bx tk):
 J3 P C o ⟨tm,bx,tk⟩ (fun σ=>∃r a,Φ r a∧Ent σ (jnS tm bx tk o.dst r k a)):=by
 obtain⟨fn,c,b,F,d,g,H,s,I⟩:=h
 grind [mW,Sn,ltN]
theorem CF.mk' (t:CfT off tm:=by repeat'(first|exact CfT.gh ‹_› |exact CfT.up ‹_› |exact CfT.nil|refine CfT.cons Ah ?_)) (b:CfB off bx:=by repeat'(first|exact CfB.up ‹_› |exact CfB.nil|refine CfB.cons Ah Ah ?_)) (q:CfQ off tk:=by repeat'(first|exact CfQ.up ‹_› |exact CfQ.nil|refine CfQ.cons Ah ?_)):CF off tm bx tk:=⟨t,b,q⟩
theorem PJ {r:AV} {b:List AV} (h:PC P f k off us c0 (fun j c'=>j=r∧c'=b)) (s:o.op= .call {callee:= .value (.func f),args:=args,argTypes:=ats}) (a:o.dst=Option.some t) (A:Nat.blt t C.N=true) (g:evL ⟨tm,bx,tk⟩ args.toList=Option.some us) (i:lk k bx=Option.some c0) (p:CF off tm bx tk) (d:K ((t,r)::tm) ((k,b)::bx) tk):NStep P C o tm bx tk K:=
 .pcS (S:=fun _=>True) (XT h s (by unfold Sn;rw[a];exact A) g i p) (by rintro _ _ ⟨rfl,rfl⟩;unfold jnS;rw[a];exact d)
end
theorem PcW.mk' {tm':TM} {a:BX} {d:TK} {u:AV} (r:AV) (h:List AV) {i:List AV} (g:Φ r h) (j:leW u r) (s:lk k a=some i) (p:Sp i h) (t:TlT tm tm':=by repeat'(first|exact TlT.nil|refine TlT.cons rfl ?_)) (b:TlB k off bx a:=by repeat'(first|exact TlB.nil|refine TlB.cons rfl ?_)) (q:TlQ off tk d:=by repeat'(first|exact TlQ.nil|refine TlQ.cons rfl ?_)):PcW k off Φ tm bx tk u tm' a d:=⟨⟨r,h,i,g,j,s,p⟩,t,b,q⟩
theorem clP {p:Prop} (h:p:=by((repeat'(first|exact rfl|exact fq (by assumption)|exact fr (by assumption)|assumption|refine Bb.2 ⟨?_,?_⟩));first|done|fail)):p:=h
theorem cY {b:Bool} {A B:Prop} (k:A) (h:b=true:=by exact clP):(bif b then A else B):=dC h k
theorem pQ {r:AV} {a:List AV} (h:PC P f k off us c0 (fun i c'=>i=r∧c'=a)) (b:K ((t,r)::tm) ((k,a)::bx) tk) (s:o.op= .call {callee:= .value (.func f),args:=args,argTypes:=ats}:=by rfl) (j:o.dst=Option.some t:=by rfl) (A:Nat.blt t C.N=true:=by rfl) (d:evL ⟨tm,bx,tk⟩ args.toList=Option.some us:=by rfl) (g:lk k bx=Option.some c0:=by rfl) (p:CF off tm bx tk:=by exact .mk'):NStep P C o tm bx tk K:=PJ h s j A d g p b
def hU (o:Oper) (m:Nat):Bool:=o.after.toList.all fun e=> !Region.binds .any e||m.testBit e.on
def qB (l:List (Oper×Nat)):List Nat:=l.foldl (fun R p=>R++(R.filter (hU p.1)).map (· |||2^p.2)) [0]
def l8 (l:List Oper):Bool:=(qB l.zipIdx).all fun m=>Nat.blt m (2^l.length)&&l.zipIdx.all fun p=>m.testBit p.2|| !hU p.1 m||(qB l.zipIdx).contains (m|||2^p.2)
def l9 (l:List Oper):List (Nat×Nat×Oper):=(qB l.zipIdx).flatMap fun m=>(l.zipIdx.filter fun p=> !m.testBit p.2&&hU p.1 m).map fun p=>(m,p.2,p.1)
noncomputable def ft (P:Program) (C:Cx) (T:Tab) (ops:List Oper) (st:Nat→AS) (ps:List (Nat×Nat×Oper)):Prop:=
 @List.rec (Nat×Nat×Oper) (fun _=>Prop) True (fun p _ ih=>L6 P C T ops [p.2.2] (st p.1).tm (st p.1).bx (st p.1).tk (fun tm bx tk=>wkW tm bx tk (st (p.1|||2^p.2.1)))∧ih) ps
theorem XU {ops:List Oper} {st:Nat→AS} {p:Nat×Nat×Oper} {ps:List (Nat×Nat×Oper)} (h:ft P C T ops st ps) (a:p∈ps):L6 P C T ops [p.2.2] (st p.1).tm (st p.1).bx (st p.1).tk (fun tm bx tk=>wkW tm bx tk (st (p.1|||2^p.2.1))):=by
 induction ps with
 |nil=>cases a
 |cons q r b=>
  have d:L6 P C T ops [q.2.2] (st q.1).tm (st q.1).bx (st q.1).tk (fun tm bx tk=>wkW tm bx tk (st (q.1|||2^q.2.1)))∧ft P C T ops st r:=h
  grind
theorem GZ (l:List (Oper×Nat)):∀R:List Nat,0∈R→0∈l.foldl (fun R p=>R++(R.filter (hU p.1)).map (· |||2^p.2)) R:=by
 induction l with
 |nil=>exact fun R h=>h
 |cons p r a=>grind
theorem Oh {id:Nat} {ops:Array Oper} {U:KS} {X:Nat→KS} {V:KS} (st:Nat→AS) (hT:TabOk P T) (hm:P.follows .mixedOrders=true) (h0:wkW tm bx tk (st 0)) (ha:Nu ops=true) (hc:l8 ops.toList=true) (hs:ft P C T ops.toList st (l9 ops.toList)) (Z:U (st (2^ops.size-1)).tm (st (2^ops.size-1)).bx (st (2^ops.size-1)).tk):
 NCode P C (.region id ops true) tm bx tk U X V:=by
 refine⟨fun a w hG=> ?_⟩
 have O:∀m∈qB ops.toList.zipIdx,m<2^ops.size∧∀k o,ops.toList[k]?=some o→m.testBit k=false→hU o m=true→(m|||2^k)∈qB ops.toList.zipIdx:=by
  intro m hm
  have:=B0.1 hc m hm
  rw[Et] at this
  refine⟨by have:=Xi this.1;simpa using this,fun k o F Z hd=> ?_⟩
  have h2:=B0.1 this.2 (o,k) (by grind)
  simp only[Z,hd,Bool.not_true,C9,List.contains_iff_mem] at h2
  exact h2
 refine Nd hm ha (fun d a w=>∃m∈qB ops.toList.zipIdx,(∀i,i<ops.size→d i=m.testBit i)∧G C (st m) a w) ⟨0,GZ _ _ Ab,fun i _=>by simp,?_⟩ ?_ ?_
 ·obtain⟨bm,gt,fp,R⟩:=(Uu h0) _ _ _ hG
  exact⟨bm,gt,fp,R.grow (Below.drew (Bq _ _))⟩
 ·have all:∀(r:List Oper) (k:Nat),(∀(i:Nat) o,r[i]?=some o→ops.toList[k+i]?=some o)→Q0 P ops (T5 C (tK U X V)) (fun d a w=>∃m∈qB ops.toList.zipIdx,(∀i,i<ops.size→d i=m.testBit i)∧G C (st m) a w) k r:=by
   intro r
   induction r with
   |nil=>intro k _;trivial
   |cons o r ih=>
    intro k hr
    have F:=hr 0 o rfl
    rw[Nat.add_zero] at F
    refine⟨?_,ih (k+1) fun i o' hi'=>by rw[show k+1+i=k+(i+1) by omega];simp_all⟩
    rintro d a w hd J ⟨m,j,b,R⟩
    have hkn:k<ops.size:=by simpa using(Ew.1 F).1
    have I:m.testBit k=false:=by rw[←b k hkn];exact hd
    have N:hU o m=true:=by
     refine B0.2 fun e W=> ?_
     cases hb:Region.binds .any e with
     |false=>rfl
     |true=>
      have h1:=J e W hb
      by_cases Q:e.on<ops.size
      ·rw[←b _ Q,h1];rfl
      ·have:=Zz ha (i:=k) (o:=o) (by simpa using F) e W hb
       omega
    have A:=XU hs (p:=(m,k,o)) (by
     unfold l9
     refine List.mem_flatMap.2 ⟨m,j,Cl.2 ⟨(o,k),List.mem_filter.2 ⟨by grind,by simp[I,N]⟩,rfl⟩⟩)
    let g:Exit→AS→Prop:=fun e σ'=>match e with
     | .normal=>Ent σ' (st (m|||2^k))
     |e=>tK U X V e σ'
    have hQ:∀Y,Exit.then Y (T5 C g)=Exit.then Y (T5 C (tK U X V)):=fun Y=>by funext e a w;cases e<;>rfl
    have s:wpList P ops (T5 C g) [o] a w:=Sm (Φ:=g) hT (fun _ _ _ h=>Uu h) A a w R
    have H:∀L w',wpList P ops (T5 C g) [] L w'→∃m'∈qB ops.toList.zipIdx,(∀i,i<ops.size→Io d k i=m'.testBit i)∧G C (st m') L w':=by
     intro L w' h
     obtain⟨σ',W,hg'⟩:=h
     refine⟨m|||2^k,(O m j).2 k o F I N,fun i hi=> ?_,W _ _ _ hg'⟩
     unfold Io
     rw[Nat.testBit_or,Nat.testBit_two_pow]
     by_cases hik:i=k
     ·subst hik;simp
     ·grind
    rw[←hQ]
    unfold wpList at s⊢
    split
    ·rename_i E
     rw[Aj E] at s
     rcases s with s|s
     ·exact .inl (xR s fun L w' h=>H L w' h)
     ·exact .inr s
    ·rename_i E
     rw[Ai E] at s
     exact H _ _ s
  grind
 ·rintro a w ⟨m,j,b,R⟩
  have Q:=(O m j).1
  have:m=2^ops.size-1:=Nat.eq_of_testBit_eq fun i=>by
   grind [Nat.testBit_two_pow_sub_one,decide_eq_false,Nat.testBit_lt_two_pow,Nat.lt_of_lt_of_le,Nat.pow_le_pow_right]
  subst this
  exact⟨st (2^ops.size-1),Z,R⟩
abbrev pk {β:Type} (m k:Nat) (x:β) (r:List β):List β:=bif m.testBit k then x::r else r
def dD (s:List (List UInt8)):Lit→Option Value
 | .string b=>if s.contains b=true then some (.bool true) else none
 |_=>none
theorem qC:(fun _=>none)=dD []:=by
 funext l
 cases l<;>rfl
theorem dE (s:List (List UInt8)) (x:List UInt8):F6 (dD s) (.string x) (.bool true)=dD (x::s):=by
 funext l
 unfold F6
 cases l with
 |string b=>
  by_cases e:b=x
  ·subst e
   rw[show(Lit.string b).sameKey (.string b)=true from WideAt.sameKey_self trivial]
   simp[dD]
  ·rw[show(Lit.string b).sameKey (.string x)=false from beq_false_of_ne e]
   simp[dD,e]
 |_=>rfl
theorem No {b:List AV} {Φ:AV→Prop} (h:Es P f b Φ) (κ:Nat) (p:o.op= .call {callee:= .value (.func f),args:=args,argTypes:=ats}) (i:o.dst=Option.some t) (s:t<C.N) (j:AS.clean κ ⟨tm,bx,tk⟩=true) (g:evL ⟨tm,bx,tk⟩ args.toList=Option.some us) (d:Fb us=true) (a:D8 us=b)
 (A:∀r,Φ r→K (AS.res ⟨tm,bx,tk⟩ t κ r).tm (AS.res ⟨tm,bx,tk⟩ t κ r).bx (AS.res ⟨tm,bx,tk⟩ t κ r).tk):NStep P C o tm bx tk K:=
 .some (Xj p i s j g d a h) (by grind)
def Pg (ms:List Nat):Tab:=⟨tyL,fdL,stL,ms++muL,0⟩
theorem P6 (a:List Nat):TabOk Tryz.prog (Pg a):=⟨Eg.ty,Eg.fd,Eg.st⟩
theorem acY {c:Code} {args:List AV} {Φ:AV→Prop} (N:Nat) (a:List Nat) (i:Tryz.prog.funcs[f]?=some fn) (s:fn.body=some c) (p:fn.results=rs) (h:∀W fp0 g,Ki Tryz.prog ⟨W,fp0,N,fun _=>none,g⟩ (Pg a) c (tW (Pg a) rs Φ) (fun _ _ _ _=>False) (tW (Pg a) rs Φ) (J4 0 args) [] []) (j:fn.ntmps=N:=by rfl) (b:(fn.name== "runtime.NumGoroutine")=false:=by kernel_rfl) (d:Nat.ble rs.size 4=true:=by rfl) (A:(Nat.ble args.length N&&Nat.ble N 1000000)=true:=by rfl):Es Tryz.prog f args Φ:=Fl N rs (P6 a) mixed i j b s p d A h
theorem inY {c:Code} (off N:Nat) (a:List Nat) (j:Tryz.prog.funcs[f]?=some fn) (A:o.op= .call {callee:= .value (.func f),args:=args,argTypes:=ats}) (i:evL ⟨tm,bx,tk⟩ args.toList=some us) (F:fn.body=some c) (E:fn.results=rs) (h:∀g,G9 (inT us tm) (fun tm=>Ki Tryz.prog ⟨C.W,C.fp0,N,g,C.z0⟩ ⟨(Pg a).ty,(Pg a).fd,(Pg a).st,(Pg a).mu,off⟩ c (Ni (Pg a) rs o.dst K) (fun _ _ _ _=>False) (Ni (Pg a) rs o.dst K) tm bx tk)) (p:Sn o.dst C.N=true:=by rfl) (s:fn.ntmps=N:=by rfl) (b:(fn.name== "runtime.NumGoroutine")=false:=by kernel_rfl) (d:Nat.ble rs.size 4=true:=by rfl) (H:(Nat.ble us.length N&&Nat.ble N 1000000)=true:=by rfl):NStep Tryz.prog C o tm bx tk K:=NStep.inl off N rs (P6 a) mixed A p i j s b F E d H h
theorem Jn {c:Code} {s:Nat} {d cs:List AV} (off N:Nat) (a:List Nat) (g:Tryz.prog.funcs[f]?=some fn) (j:o.op= .call {callee:= .value (.tmp s),args:=args,argTypes:=ats}) (E:evT tm (.tmp s)=some (.cl f d cs)) (I:evL ⟨tm,bx,tk⟩ args.toList=some us) (L:fn.body=some c) (J:fn.results=rs) (h:∀H,G9 (inT (d++us++cs) tm) (fun tm=>Ki Tryz.prog ⟨C.W,C.fp0,N,H,C.z0⟩ ⟨(Pg a).ty,(Pg a).fd,(Pg a).st,(Pg a).mu,off⟩ c (Ni (Pg a) rs o.dst K) (fun _ _ _ _=>False) (Ni (Pg a) rs o.dst K) tm bx tk)) (A:Sn o.dst C.N=true:=by rfl) (i:fn.ntmps=N:=by rfl) (b:(fn.name== "runtime.NumGoroutine")=false:=by kernel_rfl) (F:Nat.ble rs.size 4=true:=by rfl) (p:(Nat.ble (d++us++cs).length N&&Nat.ble N 1000000)=true:=by rfl):NStep Tryz.prog C o tm bx tk K:=Ut off N rs (P6 a) mixed j A E I g i b L J F p h
theorem pcP {c:Code} (off N:Nat) (i:Tryz.prog.funcs[f]?=some fn) (s:fn.body=some c) (p:fn.results=rs) (h:∀W fp0 b g tm bx tk,CfT off tm→CfB off bx→CfQ off tk→apF (J4 0 us) (ghM 1000000 tm) (fun l=>Ki Tryz.prog ⟨W,fp0,N,g,b⟩ ⟨tab.ty,tab.fd,tab.st,tab.mu,off⟩ c (pcK tab rs k off Φ tm bx tk) (fun _ _ _ _=>False) (pcK tab rs k off Φ tm bx tk) l ((k,c0)::bx) tk)) (j:fn.ntmps=N:=by rfl) (a:(fn.name== "runtime.NumGoroutine")=false:=by kernel_rfl) (d:Nat.ble rs.size 4=true:=by rfl) (A:(Nat.ble us.length N&&Nat.ble N 1000000)=true:=by rfl):PC Tryz.prog f k off us c0 Φ:=bt off N rs Eg mixed i j a s p d A h
theorem pcY {c:Code} (off N:Nat) (a:List Nat) (j:Tryz.prog.funcs[f]?=some fn) (A:fn.body=some c) (s:fn.results=rs) (h:∀W fp0 d i tm bx tk,CfT off tm→CfB off bx→CfQ off tk→apF (J4 0 us) (ghM 1000000 tm) (fun l=>Ki Tryz.prog ⟨W,fp0,N,i,d⟩ ⟨(Pg a).ty,(Pg a).fd,(Pg a).st,(Pg a).mu,off⟩ c (pcK (Pg a) rs k off Φ tm bx tk) (fun _ _ _ _=>False) (pcK (Pg a) rs k off Φ tm bx tk) l ((k,c0)::bx) tk)) (p:fn.ntmps=N:=by rfl) (b:(fn.name== "runtime.NumGoroutine")=false:=by kernel_rfl) (g:Nat.ble rs.size 4=true:=by rfl) (E:(Nat.ble us.length N&&Nat.ble N 1000000)=true:=by rfl):PC Tryz.prog f k off us c0 Φ:=bt off N rs (P6 a) mixed j p b A s g E h
end Go.Proofs.YtbedjionhmaafaaGreatDoor
