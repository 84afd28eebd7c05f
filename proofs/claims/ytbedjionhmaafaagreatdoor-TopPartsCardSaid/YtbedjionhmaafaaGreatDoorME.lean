/- ME: the texts Cs Readers EqT Lower Gn GenT MarT, one behind the other. No condition but what each lemma says. -/
import Derived.Test.YtbedjionhmaafaaGreatDoorGDec
import Derived.Test.YtbedjionhmaafaaGreatDoorMD
set_option linter.all false
set_option maxRecDepth 100000
set_option maxHeartbeats 16000000
namespace Go.Proofs.YtbedjionhmaafaaGreatDoor
open Go.RowKit
variable {w:World} {v:Value} {B:Nat} {fp:Nat→Nat→Prop} {bm:BM} {gt:Nat→Value} {k k':Int} {l:List UInt8} {x y:Operand}
theorem nR {w':World} {fp0 c:Nat→Nat→Prop} {r:AV} (s:∀b o,c b o→fp0 b o) (m:∀b o,fp0 b o→b<w.heap.size) (u:Below w.heap.size w w') (a:r.data=true)
 (p:∀fp:Nat→Nat→Prop,(∀b o,fp0 b o→fp b o)→(∀b o,w.heap.size≤b→b<w'.heap.size→fp b o)→∀(bm:BM) gt,RA w.heap.size fp w' bm gt r v):aG w fp0 c w' r v:=by
 have g:r.okRes=true∧r.tok=none:=by
  cases r with
  |tup l=>
   cases l with
   |nil=>exact⟨rfl,rfl⟩
   |cons x l=>cases x<;>first|exact⟨a,rfl⟩|(simp[AV.data,Ji] at a;done)
  |own=>cases a
  |d=>exact⟨rfl,rfl⟩
  |agg=>exact⟨a,rfl⟩
  |sem=>exact⟨rfl,rfl⟩
  |cl=>exact⟨a,rfl⟩
  |ptr=>cases a
  |pk=>cases a
 refine⟨g.1,fun b o=>fp0 b o∨(w.heap.size≤b∧b<w'.heap.size),fun _=>undef,c,fun b o f=> ?_,p _ (fun _ _ h=> .inl h) (fun b o j q=> .inr ⟨j,q⟩) _ _,fun n sz e i=>(by rw[g.2] at i;cases i),fun _ _ h=>h,fun b o h=> .inl (s b o h),fun b o h=> .inl h⟩
 rcases f with h|h
 ·exact⟨.inl h,Ci (m b o h) u.size⟩
 ·exact⟨.inr h.1,h.2⟩
theorem Es.of {P:Program} {f:FuncId} {g:Func} {c:Code} {args:List AV} {r:AV} (j:P.funcs[f]?=some g) (i:(g.name== "runtime.NumGoroutine")=false) (a:g.body=some c) (m:r.data=true)
 (h:∀(w:World) (fp0:Nat→Nat→Prop) (bm:BM) (gt:Nat→Value) (vs:List Value),Gd w→RAs w.heap.size fp0 w bm gt args vs→Calls P f vs.toArray w fun e w'=>∃v,e= .returned v∧Below w.heap.size w w'∧∀fp:Nat→Nat→Prop,(∀b o,fp0 b o→fp b o)→(∀b o,w.heap.size≤b→b<w'.heap.size→fp b o)→∀(bm:BM) gt,RA w.heap.size fp w' bm gt r v):Es P f args (fun n=>n=r):=by
 refine⟨P2 j i a,fun w fp0 z vs q d u p=> ?_⟩
 refine(h w fp0 _ _ vs q p).mono ?_
 rintro e w' ⟨v,rfl,a,s⟩
 exact⟨r,v,rfl,rfl,a,nR u d a m s⟩
def txA (k:Int) (l:List UInt8):AV:= .agg [iv k,.d (.v (.string ⟨l.toArray⟩))]
theorem MG (h:RA B fp w bm gt (txA k l) v):v= .agg #[.int .i64 k,.string ⟨l.toArray⟩]:=by
 cases h with
 |agg vs e c=>
  match vs,e with
  |[a,b],_=>
   have f:=(c 0 _ a rfl rfl).val
   have d:=(c 1 _ b rfl rfl).val
   rw[f,d]
theorem jr (k:Int) (l:List UInt8):RA B fp w bm gt (txA k l) (.agg #[.int .i64 k,.string ⟨l.toArray⟩]):=
 .agg [_,_] rfl fun i u v a b=>by
  match i with
  |0=>simp at a b;subst a b;exact .d (.v _)
  |1=>simp at a b;subst a b;exact .d (.v _)
theorem dr {S:Nat→Prop} {t:Bool} (h:Je S w v l) (F:∀b,S b→b<w.heap.size→∀o,fp b o∧(t=true→B≤b)):Rd B fp w (By t l) v:=by
 obtain⟨a,c,rfl,n,z,⟨H,p⟩,A⟩:=h
 refine .sl (Lib.byteCells l) n z (by rw[Mq,Dq]) (by rw[Mq];simp[Lib.byteCells]) p (fun u e=> ?_) (fun i d u f e=> ?_) (fun i u e=> ?_)
 ·simp only[Lib.byteCells,Cl] at e
  obtain⟨b,-,rfl⟩:=e;rfl
 ·rw[Q4] at f
  simp only[Lib.byteCells,Bk] at e
  cases m:l[i]? with
  |none=>rw[m] at f;cases f
  |some b=>
   rw[m] at f e
   simp only[Ch,A7] at f e
   subst f e
   exact .v _
 ·obtain⟨b,o,s,q,j⟩:=A i u e
  have g:b<w.heap.size:=G4 j
  obtain⟨r,E⟩:=F b q g (o+i)
  exact⟨b,o,s,r,E,j⟩
theorem V9 (k:Int) (l:List UInt8) (h:l.length≤16777216):aC 385 [txA k l] (.tup [.d (By true (Sh k l)),iv (iO k l)]):=by
 refine .of Tryz.func385 Ac rfl rfl fun w fp0 bm gt vs j f=> ?_
 match vs,f with
 |[v],f=>
  rw[MG f.1]
  refine(sF k ⟨l.toArray⟩ (by show l.toArray.size≤_;simpa using h) w j.tabs).mono ?_
  rintro e w' ⟨v,rfl,p,n⟩
  refine⟨_,rfl,n,fun fp _ d bm gt=> .tup [_,_] rfl fun i u x a c=> ?_⟩
  match i with
  |0=>simp at a c;subst a c;exact .d (dr p fun b g m o=>⟨d b o g m,fun _=>g⟩)
  |1=>simp at a c;subst a c;exact .d (.v _)
theorem Wa (k:Int) (c:List UInt8) (m:c.length≤1000000):aC 412 [iv k,.d (By false c)] (.tup [txA (Rx k c) (Ke k c),iv (Lz k c)]):=by
 refine .of Tryz.func412 Ac rfl rfl fun w fp0 bm gt vs p f=> ?_
 match vs,f with
 |[a,v],f=>
  rw[f.1.val]
  have g:=f.2.1
  generalize b:AV.d (By false c)=q at g
  cases g with
  |d g=>
   cases b
   refine(UA k _ v c w g.bytes m p.tabs).mono ?_
   rintro e w' ⟨rfl,r⟩
   refine⟨_,rfl,r,fun fp _ n bm gt=> .tup [_,_] rfl fun i u x h j=> ?_⟩
   match i with
   |0=>grind [jr]
   |1=>simp at h j;subst h j;exact .d (.v _)
  |ptr=>cases b
  |own=>cases b
  |agg=>cases b
  |tup=>cases b
  |sem=>cases b
  |cl=>cases b
  |pk=>cases b
def rdF (k:Int):Option Nat:=
 if k=0 then some 387 else if k=1∨k=2∨k=6 then some 388 else if k=3∨k=7 then some 389
 else if k=4 then some 390 else if k=5 then some 391 else if k=8 then some 392 else none
def rdV (f:Nat):Value:= .func (.func f) #[] #[]
theorem jM (w:World):Calls Tryz.prog 338 #[] w fun e w'=>∃m,e= .returned (.map (some m))∧w.heap.size≤m∧Ig w' m (fun k v=>∃f,rdF k=some f∧v=rdV f)∧Below w.heap.size w w':=by
 have hmm:=@run_makeMap Tryz.prog
 obtain⟨m,hm⟩:∃m,w.heap.size=m:=⟨_,rfl⟩
 have e0:Ig (w.alloc (.map #[] 0)) m (fun _ _=>False):=hm▸Z5 w
 have b0:Below w.heap.size w (w.alloc (.map #[] 0)):=(Bq _ _).alloc (At _) _
 obtain⟨w1,r1,e1,k1,s1,o1,t1,p1⟩:=e0.insert (P:=Tryz.prog) Tryz.underlying535 Tryz.underlying3 (k:=0) (rdV 387) (by intro v hv;simp at hv)
 have b1:Below w.heap.size w w1:=⟨o1.trans b0.os,t1.trans b0.tape,p1.trans b0.output,by rw[s1];exact b0.size,fun i hi=>(k1 i Aa).trans (b0.block i hi)⟩
 obtain⟨w2,r2,e2,k2,s2,o2,t2,p2⟩:=e1.insert (P:=Tryz.prog) Tryz.underlying535 Tryz.underlying3 (k:=1) (rdV 388) (by intro v hv;simp at hv)
 have b2:Below w.heap.size w w2:=⟨o2.trans b1.os,t2.trans b1.tape,p2.trans b1.output,by rw[s2];exact b1.size,fun i hi=>(k2 i Aa).trans (b1.block i hi)⟩
 obtain⟨w3,r3,e3,k3,s3,o3,t3,p3⟩:=e2.insert (P:=Tryz.prog) Tryz.underlying535 Tryz.underlying3 (k:=2) (rdV 388) (by intro v hv;simp at hv)
 have b3:Below w.heap.size w w3:=⟨o3.trans b2.os,t3.trans b2.tape,p3.trans b2.output,by rw[s3];exact b2.size,fun i hi=>(k3 i Aa).trans (b2.block i hi)⟩
 obtain⟨w4,r4,e4,k4,s4,o4,t4,p4⟩:=e3.insert (P:=Tryz.prog) Tryz.underlying535 Tryz.underlying3 (k:=3) (rdV 389) (by intro v hv;simp at hv)
 have b4:Below w.heap.size w w4:=⟨o4.trans b3.os,t4.trans b3.tape,p4.trans b3.output,by rw[s4];exact b3.size,fun i hi=>(k4 i Aa).trans (b3.block i hi)⟩
 obtain⟨w5,r5,e5,k5,s5,o5,t5,p5⟩:=e4.insert (P:=Tryz.prog) Tryz.underlying535 Tryz.underlying3 (k:=4) (rdV 390) (by intro v hv;simp at hv)
 have b5:Below w.heap.size w w5:=⟨o5.trans b4.os,t5.trans b4.tape,p5.trans b4.output,by rw[s5];exact b4.size,fun i hi=>(k5 i Aa).trans (b4.block i hi)⟩
 obtain⟨w6,r6,e6,k6,s6,o6,t6,p6⟩:=e5.insert (P:=Tryz.prog) Tryz.underlying535 Tryz.underlying3 (k:=5) (rdV 391) (by intro v hv;simp at hv)
 have b6:Below w.heap.size w w6:=⟨o6.trans b5.os,t6.trans b5.tape,p6.trans b5.output,by rw[s6];exact b5.size,fun i hi=>(k6 i Aa).trans (b5.block i hi)⟩
 obtain⟨w7,r7,e7,k7,s7,o7,t7,p7⟩:=e6.insert (P:=Tryz.prog) Tryz.underlying535 Tryz.underlying3 (k:=6) (rdV 388) (by intro v hv;simp at hv)
 have b7:Below w.heap.size w w7:=⟨o7.trans b6.os,t7.trans b6.tape,p7.trans b6.output,by rw[s7];exact b6.size,fun i hi=>(k7 i Aa).trans (b6.block i hi)⟩
 obtain⟨w8,r8,e8,k8,s8,o8,t8,p8⟩:=e7.insert (P:=Tryz.prog) Tryz.underlying535 Tryz.underlying3 (k:=7) (rdV 389) (by intro v hv;simp at hv)
 have b8:Below w.heap.size w w8:=⟨o8.trans b7.os,t8.trans b7.tape,p8.trans b7.output,by rw[s8];exact b7.size,fun i hi=>(k8 i Aa).trans (b7.block i hi)⟩
 obtain⟨w9,r9,e9,k9,s9,o9,t9,p9⟩:=e8.insert (P:=Tryz.prog) Tryz.underlying535 Tryz.underlying3 (k:=8) (rdV 392) (by intro v hv;simp at hv)
 have b9:Below w.heap.size w w9:=⟨o9.trans b8.os,t9.trans b8.tape,p9.trans b8.output,by rw[s9];exact b8.size,fun i hi=>(k9 i Aa).trans (b8.block i hi)⟩
 go_enter Tryz.func338,Tryz.ntmps338
 have e9':Ig w9 m (fun k v=>∃f,rdF k=some f∧v=rdV f):=e9.congr fun k v=>by
  unfold rdF
  constructor
  ·intro h
   simp only[false_or] at h
   rcases h with(((((((h|h)|h)|h)|h)|h)|h)|h)|h
   all_goals grind
  ·rintro⟨f,hf,rfl⟩
   split at hf
   ·rename_i h;cases hf;subst h;simp
   ·split at hf
    all_goals grind
 subst hm
 simp only[rdV] at r1 r2 r3 r4 r5 r6 r7 r8 r9
 have E9:=Zh e9';have B9:=Zh b9
 clear e0 e1 e2 e3 e4 e5 e6 e7 e8 e9 e9' b0 b1 b2 b3 b4 b5 b6 b7 b8 b9 k1 k2 k3 k4 k5 k6 k7 k8 k9 s1 s2 s3 s4 s5 s6 s7 s8 s9 o1 o2 o3 o4 o5 o6 o7 o8 o9 t1 t2 t3 t4 t5 t6 t7 t8 t9 p1 p2 p3 p4 p5 p6 p7 p8 p9
 go_wp2
 go_ret
 exact⟨_,rfl,At _,E9.out,B9.out⟩
def mv:(Nat→Nat→Prop)→World→Value→Prop:=fun _ w v=>∃m,v= .map (some m)∧Ig w m (fun k v=>∃f,rdF k=some f∧v=rdV f)
def rdA:AV:= .sem mv
theorem Ig.nc {w':World} {m:Nat} {R:Int→Value→Prop} (h:Ig w m R) (b:NC w w'):Ig w' m R:=by
 obtain⟨d,c,a,f⟩:=h
 exact⟨d,c,b m _ a (fun _ _ _ e=>by cases e),f⟩
theorem Lp:aC 338 [] rdA:=by
 refine .of Tryz.func338 Ac rfl rfl fun w fp0 bm gt vs h b=> ?_
 match vs,b with
 |[],_=>
  refine(jM w).mono ?_
  rintro e w' ⟨m,rfl,i,c,d⟩
  exact⟨_,rfl,d,fun fp _ _ bm gt=> .sem rfl fun f g _ _ a=>⟨m,rfl,c.nc a⟩⟩
def fnA (k:Int):AV:=match rdF k with
 |some f=> .d (.fn f [])
 |none=> .d (.v .nilFunc)
theorem Of {C:Cx} {o:Oper} {σ:AS} {t:Nat} (q:o.op= .lookup 535 x y true) (n:o.dst=some t) (E:t<C.N) (F:σ.eval x=some rdA) (I:σ.eval y=some (iv k)):
 LA Tryz.prog C o ⟨[],some (t,.tup [fnA k,bv (rdF k).isSome]),none,none,[],[],[],[]⟩ σ:=fun σ' r _ _=>by
 have g:=tr r (x:=x) (by rw[q];simp[Op.operands]) F
 have j:=tr r (x:=y) (by rw[q];simp[Op.operands]) I
 refine E1 n E fun a w bm gt fp s=> ?_
 have h:=s.eval g
 have J:=(s.eval j).val
 generalize b:a.eval x=v at h
 unfold rdA at h
 cases h with
 |sem _ h=>
  obtain⟨m,rfl,A⟩:=h bm.z w (fun _ _ h=>h) (fun _ _ _=>rfl) (NC.refl w)
  cases e:rdF k with
  |some f=>
   have H:=A.look (P:=Tryz.prog) Tryz.underlying535 Tryz.underlying3 (k:=k) (v:=rdV f) ⟨f,e,rfl⟩
   refine⟨.tuple #[rdV f,.bool true],?_,.tup [_,_] rfl fun i u v c b=> ?_⟩
   ·grind [execOp,Sem.run_bind,Sem.run_pure,Result.andThen_ok]
   ·match i with
    |0=>simp[fnA,e] at c b;subst c b;exact .d (.fn [] rfl (fun i d u n=>by simp at n))
    |1=>simp at c b;subst c b;exact .d (.v _)
  |none=>
   have H:=A.miss (P:=Tryz.prog) Tryz.underlying535 Tryz.underlying3 (k:=k) (z:= .nilFunc) (fun w=>by kernel_rfl) (fun v ⟨f,p,_⟩=>by rw[e] at p;cases p)
   refine⟨.tuple #[.nilFunc,.bool false],?_,.tup [_,_] rfl fun i u v c b=> ?_⟩
   ·grind [execOp,Sem.run_bind,Sem.run_pure,Result.andThen_ok]
   ·match i with
    |0=>simp[fnA,e] at c b;subst c b;exact .d (.v _)
    |1=>simp at c b;subst c b;exact .d (.v _)
theorem eqi (d:Nat) (k k':Int) (w:World):(Op.equalIn (d+1) 3 (.int .i64 k) (.int .i64 k')).run Tryz.prog w= .ok (k==k') w:=by
 simp[Op.equalIn,Au,Bf Tryz.underlying3,Result.andThen]
theorem eqc (d:Nat) (k k':Int) (w:World):(Op.equalIn (d+1) 39 (.int .i64 k) (.int .i64 k')).run Tryz.prog w= .ok (k==k') w:=by
 simp[Op.equalIn,Au,Bf Tryz.underlying39,Result.andThen]
theorem eqs (d:Nat) (s a:ByteArray) (w:World):(Op.equalIn (d+1) 9 (.string s) (.string a)).run Tryz.prog w= .ok (s==a) w:=by
 simp[Op.equalIn,Au,Bf Tryz.underlying9,Result.andThen]
theorem js (d:Nat) (k k':Int) (s a:ByteArray) (w:World):(Op.equalIn (d+2) 433 (.agg #[.int .i64 k,.string s]) (.agg #[.int .i64 k',.string a])).run Tryz.prog w= .ok (k==k'&&s==a) w:=by
 have g:Tryz.prog.stoodInHeld 433=false:=Ac
 have f:∀w,(part 3 #[.int .i64 k,.string s] 0).run Tryz.prog w= .ok (.int .i64 k) w:=fun w=>by kernel_rfl
 have e:∀w,(part 3 #[.int .i64 k',.string a] 0).run Tryz.prog w= .ok (.int .i64 k') w:=fun w=>by kernel_rfl
 have h:∀w,(part 9 #[.int .i64 k,.string s] 1).run Tryz.prog w= .ok (.string s) w:=fun w=>by kernel_rfl
 have i:∀w,(part 9 #[.int .i64 k',.string a] 1).run Tryz.prog w= .ok (.string a) w:=fun w=>by kernel_rfl
 have b:=eqi d k k'
 have c:=eqs d s a
 unfold Op.equalIn
 cases j:(k==k') with
 |true=>
  simp only[j] at b
  cases m:(s==a) with
  |true=>simp only[m] at c;simp[Au,Bf Tryz.underlying433,Result.andThen,program,g,Sem.run,f,e,h,i,b,c]
  |false=>simp only[m] at c;simp[Au,Bf Tryz.underlying433,Result.andThen,program,g,Sem.run,f,e,h,i,b,c]
 |false=>
  simp only[j] at b
  simp[Au,Bf Tryz.underlying433,Result.andThen,program,g,Sem.run,f,e,b]
theorem jt (d:Nat) (k k':Int) (o o':Int) (w:World):(Op.equalIn (d+2) 41 (.agg #[.int .i64 k,.int .i64 o]) (.agg #[.int .i64 k',.int .i64 o'])).run Tryz.prog w= .ok (k==k'&&o==o') w:=by
 have f:Tryz.prog.stoodInHeld 41=false:=Ac
 have e:∀w,(part 39 #[.int .i64 k,.int .i64 o] 0).run Tryz.prog w= .ok (.int .i64 k) w:=fun w=>by kernel_rfl
 have c:∀w,(part 39 #[.int .i64 k',.int .i64 o'] 0).run Tryz.prog w= .ok (.int .i64 k') w:=fun w=>by kernel_rfl
 have g:∀w,(part 3 #[.int .i64 k,.int .i64 o] 1).run Tryz.prog w= .ok (.int .i64 o) w:=fun w=>by kernel_rfl
 have h:∀w,(part 3 #[.int .i64 k',.int .i64 o'] 1).run Tryz.prog w= .ok (.int .i64 o') w:=fun w=>by kernel_rfl
 have a:=eqc d k k'
 have b:=eqi d o o'
 unfold Op.equalIn
 cases i:(k==k') with
 |true=>
  simp only[i] at a
  cases j:(o==o') with
  |true=>simp only[j] at b;simp[Au,Bf Tryz.underlying41,Result.andThen,program,f,Sem.run,e,c,g,h,a,b]
  |false=>simp only[j] at b;simp[Au,Bf Tryz.underlying41,Result.andThen,program,f,Sem.run,e,c,g,h,a,b]
 |false=>
  simp only[i] at a
  simp[Au,Bf Tryz.underlying41,Result.andThen,program,f,Sem.run,e,c,a]
theorem VP (l a:List UInt8):((⟨l.toArray⟩:ByteArray)==⟨a.toArray⟩)=(l==a):=by show(l.toArray==a.toArray)=(l==a);simp
theorem du (x y:Operand) (k k':Int) (l a:List UInt8) (w:World):
 (do eqGuard .eql 433 x y (.agg #[.int .i64 k,.string ⟨l.toArray⟩]) (.agg #[.int .i64 k',.string ⟨a.toArray⟩]);binOp .eql 433 (.agg #[.int .i64 k,.string ⟨l.toArray⟩]) (.agg #[.int .i64 k',.string ⟨a.toArray⟩]):Sem Value).run Tryz.prog w= .ok (.bool (k==k'&&l==a)) w∧(do eqGuard .neq 433 x y (.agg #[.int .i64 k,.string ⟨l.toArray⟩]) (.agg #[.int .i64 k',.string ⟨a.toArray⟩]);binOp .neq 433 (.agg #[.int .i64 k,.string ⟨l.toArray⟩]) (.agg #[.int .i64 k',.string ⟨a.toArray⟩]):Sem Value).run Tryz.prog w= .ok (.bool (!(k==k'&&l==a))) w:=by
 have b:Tryz.prog.eqGuardType Tryz.prog.depth 433=false:=Ac
 have e:∀w,(Op.equal 433 (.agg #[.int .i64 k,.string ⟨l.toArray⟩]) (.agg #[.int .i64 k',.string ⟨a.toArray⟩])).run Tryz.prog w= .ok (k==k'&&l==a) w:=fun w=>by rw[←VP l a];exact js 9998 k k' _ _ w
 constructor
 ·simp[eqGuard,program,Au,Sem.run,Result.andThen,b,binOp,e]
 ·simp[eqGuard,program,Au,Sem.run,Result.andThen,b,binOp,e]
theorem MH (x y:Operand) (k k' o o':Int) (w:World):
 (do eqGuard .eql 41 x y (.agg #[.int .i64 k,.int .i64 o]) (.agg #[.int .i64 k',.int .i64 o']);binOp .eql 41 (.agg #[.int .i64 k,.int .i64 o]) (.agg #[.int .i64 k',.int .i64 o']):Sem Value).run Tryz.prog w= .ok (.bool (k==k'&&o==o')) w∧(do eqGuard .neq 41 x y (.agg #[.int .i64 k,.int .i64 o]) (.agg #[.int .i64 k',.int .i64 o']);binOp .neq 41 (.agg #[.int .i64 k,.int .i64 o]) (.agg #[.int .i64 k',.int .i64 o']):Sem Value).run Tryz.prog w= .ok (.bool (!(k==k'&&o==o'))) w:=by
 have a:Tryz.prog.eqGuardType Tryz.prog.depth 41=false:=Ac
 have e:∀w,(Op.equal 41 (.agg #[.int .i64 k,.int .i64 o]) (.agg #[.int .i64 k',.int .i64 o'])).run Tryz.prog w= .ok (k==k'&&o==o') w:=fun w=>jt 9998 k k' o o' w
 constructor
 ·simp[eqGuard,program,Au,Sem.run,Result.andThen,a,binOp,e]
 ·simp[eqGuard,program,Au,Sem.run,Result.andThen,a,binOp,e]
theorem xZ {l:Int} (h:RA B fp w bm gt (.agg [iv k,iv l]) v):v= .agg #[.int .i64 k,.int .i64 l]:=by
 cases h with
 |agg vs e c=>
  match vs,e with
  |[a,b],_=>
   have f:=(c 0 _ a rfl rfl).val
   have d:=(c 1 _ b rfl rfl).val
   rw[f,d]
section
variable {C:Cx} {o:Oper} {σ:AS} {t:Nat}
theorem Qj {b:List UInt8} {e:TypeId} (g:o.op= .binOp .eql 433 x y e) (m:o.dst=some t) (h:t<C.N) (j:σ.eval x=some (.agg [iv k,.d (.v (.string ⟨⟨l⟩⟩))])) (f:σ.eval y=some (.agg [iv k',.d (.v (.string ⟨⟨b⟩⟩))])):
 Fp Tryz.prog C o σ (σ.put t (bv (k==k'&&l==b))):=
 E1 m h fun a w bm gt fp c=>⟨_,by
  have d:=MG (c.eval j)
  have i:=MG (c.eval f)
  simp only[execOp,g,d,i]
  rw[Au,(du x y k k' l b w).1]
  rfl,.d (.v _)⟩
theorem ES {l b:Int} {e:TypeId} (g:o.op= .binOp .eql 41 x y e) (m:o.dst=some t) (h:t<C.N) (j:σ.eval x=some (.agg [iv k,iv l])) (f:σ.eval y=some (.agg [iv k',iv b])):
 Fp Tryz.prog C o σ (σ.put t (bv (k==k'&&l==b))):=
 E1 m h fun a w bm gt fp c=>⟨_,by
  have d:=xZ (c.eval j)
  have i:=xZ (c.eval f)
  simp only[execOp,g,d,i]
  rw[Au,(MH x y k k' l b w).1]
  rfl,.d (.v _)⟩
theorem Xu {l b:Int} {e:TypeId} (g:o.op= .binOp .neq 41 x y e) (m:o.dst=some t) (h:t<C.N) (j:σ.eval x=some (.agg [iv k,iv l])) (f:σ.eval y=some (.agg [iv k',iv b])):
 Fp Tryz.prog C o σ (σ.put t (bv (!(k==k'&&l==b)))):=
 E1 m h fun a w bm gt fp c=>⟨_,by
  have d:=xZ (c.eval j)
  have i:=xZ (c.eval f)
  simp only[execOp,g,d,i]
  rw[Au,(MH x y k k' l b w).2]
  rfl,.d (.v _)⟩
end
structure Att where
 oid:List UInt8
 val:List UInt8
 deriving DecidableEq
structure Gn where
 k:Int
 oid:List UInt8
 tx:List UInt8
 by':List UInt8
 nm:List (List Att)
 ak:Int
 av:List UInt8
 pk:Int
 pv:List UInt8
 deriving DecidableEq
abbrev sD (l:List UInt8):D:= .v (.string ⟨⟨l⟩⟩)
abbrev iD (n:Int):D:= .v (.int .i64 n)
def atC (a:Att):List D:=[sD a.oid,By false a.val]
def Uy (r:List Att):D:=J5 false 2 atC r
def MI (r:List Att):List D:=[Uy r]
def Kz (n:List (List Att)):D:=J5 false 1 MI n
def gnC (g:Gn):List D:=[iD g.k,sD g.oid,sD g.tx,By false g.by',Kz g.nm,iD g.ak,sD g.av,iD g.pk,sD g.pv]
def Uz (l:List Gn):D:=J5 false 9 gnC l
theorem yA (a:Att):Ef (atC a)=atC a:=by simp only[atC,Ef,D7,D.un]
theorem F8 (r:List Att):(Uy r).un=Uy r:=K3 yA false 2 r
theorem MJ (r:List Att):Ef (MI r)=MI r:=by simp only[MI,Ef,F8]
theorem Ex (n:List (List Att)):(Kz n).un=Kz n:=K3 MJ false 1 n
theorem Gv (g:Gn):Ef (gnC g)=gnC g:=by simp only[gnC,Ef,D7,Ex,D.un]
theorem G2 (l:List Gn):(Uz l).un=Uz l:=K3 Gv false 9 l
theorem Ha (a:Att):Ef (atC a)=atC a:=yA a
abbrev atA (a:Att):AV:= .agg [.d (sD a.oid),.d (By false a.val)]
abbrev gnA (g:Gn):AV:= .agg [iv g.k,.d (sD g.oid),.d (sD g.tx),.d (By false g.by'),.d (Kz g.nm),iv g.ak,.d (sD g.av),iv g.pk,.d (sD g.pv)]
def big:Nat:=9223372036854775807
structure Att.ok (a:Att):Prop where
 o:a.oid.length≤big
 v:a.val.length≤big
structure Gn.ok (g:Gn):Prop where
 o:g.oid.length≤big
 t:g.tx.length≤big
 b:g.by'.length≤big
 n:g.nm.length≤big∧∀r∈g.nm,r.length≤big∧∀a∈r,a.ok
 a:g.av.length≤big
 p:g.pv.length≤big
def TxK (k:Int):Prop:=k=1∨k=2∨k=6
structure rq (n:Nat) (l b:List UInt8):Prop where
 kind:TxK n
 small:b.length≤100000∧l.length≤100000
 enc:iO 22 l=0
 put:Ei 2 n false (Sh 22 l)=b
 rd:∃body,body≤b.length∧Em b=⟨⟨2,n,false,0,body,b.length⟩,0,0⟩∧Lz 22 (b.drop body)=0
end Go.Proofs.YtbedjionhmaafaaGreatDoor
