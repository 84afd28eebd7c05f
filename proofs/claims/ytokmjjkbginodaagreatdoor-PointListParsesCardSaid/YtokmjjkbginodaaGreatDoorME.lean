/- ME: the texts Cs Readers EqT Lower Gn GenT MarT, one behind the other. No condition but what each lemma says. -/
import Derived.Test.YtokmjjkbginodaaGreatDoorGDecO
import Derived.Test.YtokmjjkbginodaaGreatDoorMD
set_option maxRecDepth 100000
set_option maxHeartbeats 16000000
namespace Go.Proofs.YtokmjjkbginodaaGreatDoor
open Go.RowKit
theorem Kt.plain {w w':World} {fp0 z0:Nat→Nat→Prop} {r:AV} {v:Value} (hz:∀b o,z0 b o→fp0 b o) (hf:∀b o,fp0 b o→b<w.heap.size) (hb:Below w.heap.size w w') (hd:r.data=true)
 (hr:∀fp:Nat→Nat→Prop,(∀b o,fp0 b o→fp b o)→(∀b o,w.heap.size≤b→b<w'.heap.size→fp b o)→∀(bm:BM) gt,RA w.heap.size fp w' bm gt r v):Kt w fp0 z0 w' r v:=by
 have hk:r.okRes=true∧r.tok=none:=by
  cases r with
  |tup l=>
   cases l with
   |nil=>exact⟨rfl,rfl⟩
   |cons x l=>cases x<;>first|exact⟨hd,rfl⟩|(simp[AV.data,AV.datas] at hd;done)
  |own=>cases hd
  |d=>exact⟨rfl,rfl⟩
  |agg=>exact⟨hd,rfl⟩
  |sem=>exact⟨rfl,rfl⟩
  |cl=>exact⟨hd,rfl⟩
  |ptr=>cases hd
  |pk=>cases hd
 refine⟨hk.1,fun b o=>fp0 b o∨(w.heap.size≤b∧b<w'.heap.size),fun _=>undef,z0,fun b o hb'=> ?_,hr _ (fun _ _ h=> .inl h) (fun b o h1 h2=> .inr ⟨h1,h2⟩) _ _,fun n sz e ht=>(by rw[hk.2] at ht;cases ht),fun _ _ h=>h,fun b o h=> .inl (hz b o h),fun b o h=> .inl h⟩
 rcases hb' with h|h
 ·exact⟨.inl h,Nat.lt_of_lt_of_le (hf b o h) hb.size⟩
 ·exact⟨.inr h.1,h.2⟩
theorem Ab.of {P:Program} {f:FuncId} {fn:Func} {c:Code} {args:List AV} {r:AV} (hf:P.funcs[f]?=some fn) (hn0:(fn.name== "runtime.NumGoroutine")=false) (hb:fn.body=some c) (hd:r.data=true)
 (h:∀(w:World) (fp0:Nat→Nat→Prop) (bm:BM) (gt:Nat→Value) (vs:List Value),Gd w→RAs w.heap.size fp0 w bm gt args vs→Calls P f vs.toArray w fun e w'=>∃v,e= .returned v∧Below w.heap.size w w'∧∀fp:Nat→Nat→Prop,(∀b o,fp0 b o→fp b o)→(∀b o,w.heap.size≤b→b<w'.heap.size→fp b o)→∀(bm:BM) gt,RA w.heap.size fp w' bm gt r v):Ab P f args (fun r'=>r'=r):=by
 refine⟨Mk hf hn0 hb,fun w fp0 z0 vs hG hfp hz hr=> ?_⟩
 refine(h w fp0 _ _ vs hG hr).mono ?_
 rintro e w' ⟨v,rfl,hb,hR⟩
 exact⟨r,v,rfl,rfl,hb,Kt.plain hz hfp hb hd hR⟩
def txA (k:Int) (l:List UInt8):AV:= .agg [iv k,.d (.v (.string ⟨l.toArray⟩))]
theorem yZ {B:Nat} {fp:Nat→Nat→Prop} {w:World} {bm:BM} {gt:Nat→Value} {k:Int} {l:List UInt8} {v:Value} (h:RA B fp w bm gt (txA k l) v):v= .agg #[.int .i64 k,.string ⟨l.toArray⟩]:=by
 cases h with
 |agg vs h4 h7=>
  match vs,h4 with
  |[a,b],_=>
   have h0:=(h7 0 _ a rfl rfl).val
   have h1:=(h7 1 _ b rfl rfl).val
   rw[h0,h1]
theorem PD {B:Nat} {fp:Nat→Nat→Prop} {w:World} {bm:BM} {gt:Nat→Value} (k:Int) (l:List UInt8):RA B fp w bm gt (txA k l) (.agg #[.int .i64 k,.string ⟨l.toArray⟩]):=
 .agg [_,_] rfl fun i u v hu hv=>by
  match i with
  |0=>simp at hu hv;subst hu hv;exact .d (.v _)
  |1=>simp at hu hv;subst hu hv;exact .d (.v _)
theorem LK {B:Nat} {fp:Nat→Nat→Prop} {w:World} {S:Nat→Prop} {t:Bool} {l:List UInt8} {v:Value} (h:Dg S w v l) (hS:∀b,S b→b<w.heap.size→∀o,fp b o∧(t=true→B≤b)):Rd B fp w (Af t l) v:=by
 obtain⟨a,c,rfl,h1,h2,⟨h3,h4⟩,h5⟩:=h
 refine .sl (Lib.byteCells l) h1 h2 (by rw[B7,Nat.mul_one]) (by rw[B7];simp[Lib.byteCells]) h4 (fun u hu=> ?_) (fun i d u hd hu=> ?_) (fun i u hu=> ?_)
 ·simp only[Lib.byteCells,List.mem_map] at hu
  obtain⟨b,-,rfl⟩:=hu;rfl
 ·rw[Gi] at hd
  simp only[Lib.byteCells,List.getElem?_map] at hu
  cases hx:l[i]? with
  |none=>rw[hx] at hd;cases hd
  |some b=>
   rw[hx] at hd hu
   simp only[Option.map_some,Option.some.injEq] at hd hu
   subst hd hu
   exact .v _
 ·obtain⟨b,o,e1,e2,e3⟩:=h5 i u hu
  have hlt:b<w.heap.size:=Co e3
  obtain⟨k1,k2⟩:=hS b e2 hlt (o+i)
  exact⟨b,o,e1,k1,k2,e3⟩
theorem Qh (k:Int) (l:List UInt8) (hl:l.length≤16777216):Ab Tryz.prog 110 [txA k l] (fun r=>r= .tup [.d (Af true (Fh k l)),iv (I2 k l)]):=by
 refine .of Tryz.func110 (by kernel_rfl) rfl rfl fun w fp0 bm gt vs hG hr=> ?_
 match vs,hr with
 |[v],hr=>
  rw[yZ hr.1]
  refine(iX k ⟨l.toArray⟩ (by show l.toArray.size≤_;simpa using hl) w hG.tabs).mono ?_
  rintro e w' ⟨v,rfl,hv,hb⟩
  refine⟨_,rfl,hb,fun fp _ hfp bm gt=> .tup [_,_] rfl fun i u x hu hx=> ?_⟩
  match i with
  |0=>simp at hu hx;subst hu hx;exact .d (LK hv fun b h1 h2 o=>⟨hfp b o h1 h2,fun _=>h1⟩)
  |1=>simp at hu hx;subst hu hx;exact .d (.v _)
theorem Qi (k:Int) (c:List UInt8) (hl:c.length≤1000000):Ab Tryz.prog 196 [iv k,.d (Af false c)] (fun r=>r= .tup [txA (Fl k c) (Cu k c),iv (D7 k c)]):=by
 refine .of Tryz.func196 (by kernel_rfl) rfl rfl fun w fp0 bm gt vs hG hr=> ?_
 match vs,hr with
 |[a,v],hr=>
  rw[hr.1.val]
  have h2:=hr.2.1
  generalize hq:AV.d (Af false c)=q at h2
  cases h2 with
  |d h2=>
   cases hq
   refine(EJ k _ v c w h2.bytes hl hG.tabs).mono ?_
   rintro e w' ⟨rfl,hb⟩
   refine⟨_,rfl,hb,fun fp _ hfp bm gt=> .tup [_,_] rfl fun i u x hu hx=> ?_⟩
   match i with
   |0=>simp at hu hx;subst hu hx;exact PD _ _
   |1=>simp at hu hx;subst hu hx;exact .d (.v _)
  |ptr=>cases hq
  |own=>cases hq
  |agg=>cases hq
  |tup=>cases hq
  |sem=>cases hq
  |cl=>cases hq
  |pk=>cases hq
def rdF (k:Int):Option Nat:=
 if k=0 then some 151 else if k=1∨k=2∨k=6 then some 152 else if k=3∨k=7 then some 153
 else if k=4 then some 154 else if k=5 then some 155 else if k=8 then some 156 else none
def rdV (f:Nat):Value:= .func (.func f) #[] #[]
theorem aL (w:World):Calls Tryz.prog 113 #[] w fun e w'=>∃m,e= .returned (.map (some m))∧w.heap.size≤m∧Dx w' m (fun k v=>∃f,rdF k=some f∧v=rdV f)∧Below w.heap.size w w':=by
 have hmm:=@run_makeMap Tryz.prog
 obtain⟨m,hm⟩:∃m,w.heap.size=m:=⟨_,rfl⟩
 have e0:Dx (w.alloc (.map #[] 0)) m (fun _ _=>False):=hm▸Dx.made w
 have b0:Below w.heap.size w (w.alloc (.map #[] 0)):=(Below.refl _ _).alloc (Nat.le_refl _) _
 obtain⟨w1,r1,e1,k1,s1,o1,t1,p1⟩:=e0.insert (P:=Tryz.prog) Tryz.underlying181 Tryz.underlying3 (k:=0) (rdV 151) (by intro v hv;simp at hv)
 have b1:Below w.heap.size w w1:=⟨o1.trans b0.os,t1.trans b0.tape,p1.trans b0.output,by rw[s1];exact b0.size,fun i hi=>(k1 i (by omega)).trans (b0.block i hi)⟩
 obtain⟨w2,r2,e2,k2,s2,o2,t2,p2⟩:=e1.insert (P:=Tryz.prog) Tryz.underlying181 Tryz.underlying3 (k:=1) (rdV 152) (by intro v hv;simp at hv)
 have b2:Below w.heap.size w w2:=⟨o2.trans b1.os,t2.trans b1.tape,p2.trans b1.output,by rw[s2];exact b1.size,fun i hi=>(k2 i (by omega)).trans (b1.block i hi)⟩
 obtain⟨w3,r3,e3,k3,s3,o3,t3,p3⟩:=e2.insert (P:=Tryz.prog) Tryz.underlying181 Tryz.underlying3 (k:=2) (rdV 152) (by intro v hv;simp at hv)
 have b3:Below w.heap.size w w3:=⟨o3.trans b2.os,t3.trans b2.tape,p3.trans b2.output,by rw[s3];exact b2.size,fun i hi=>(k3 i (by omega)).trans (b2.block i hi)⟩
 obtain⟨w4,r4,e4,k4,s4,o4,t4,p4⟩:=e3.insert (P:=Tryz.prog) Tryz.underlying181 Tryz.underlying3 (k:=3) (rdV 153) (by intro v hv;simp at hv)
 have b4:Below w.heap.size w w4:=⟨o4.trans b3.os,t4.trans b3.tape,p4.trans b3.output,by rw[s4];exact b3.size,fun i hi=>(k4 i (by omega)).trans (b3.block i hi)⟩
 obtain⟨w5,r5,e5,k5,s5,o5,t5,p5⟩:=e4.insert (P:=Tryz.prog) Tryz.underlying181 Tryz.underlying3 (k:=4) (rdV 154) (by intro v hv;simp at hv)
 have b5:Below w.heap.size w w5:=⟨o5.trans b4.os,t5.trans b4.tape,p5.trans b4.output,by rw[s5];exact b4.size,fun i hi=>(k5 i (by omega)).trans (b4.block i hi)⟩
 obtain⟨w6,r6,e6,k6,s6,o6,t6,p6⟩:=e5.insert (P:=Tryz.prog) Tryz.underlying181 Tryz.underlying3 (k:=5) (rdV 155) (by intro v hv;simp at hv)
 have b6:Below w.heap.size w w6:=⟨o6.trans b5.os,t6.trans b5.tape,p6.trans b5.output,by rw[s6];exact b5.size,fun i hi=>(k6 i (by omega)).trans (b5.block i hi)⟩
 obtain⟨w7,r7,e7,k7,s7,o7,t7,p7⟩:=e6.insert (P:=Tryz.prog) Tryz.underlying181 Tryz.underlying3 (k:=6) (rdV 152) (by intro v hv;simp at hv)
 have b7:Below w.heap.size w w7:=⟨o7.trans b6.os,t7.trans b6.tape,p7.trans b6.output,by rw[s7];exact b6.size,fun i hi=>(k7 i (by omega)).trans (b6.block i hi)⟩
 obtain⟨w8,r8,e8,k8,s8,o8,t8,p8⟩:=e7.insert (P:=Tryz.prog) Tryz.underlying181 Tryz.underlying3 (k:=7) (rdV 153) (by intro v hv;simp at hv)
 have b8:Below w.heap.size w w8:=⟨o8.trans b7.os,t8.trans b7.tape,p8.trans b7.output,by rw[s8];exact b7.size,fun i hi=>(k8 i (by omega)).trans (b7.block i hi)⟩
 obtain⟨w9,r9,e9,k9,s9,o9,t9,p9⟩:=e8.insert (P:=Tryz.prog) Tryz.underlying181 Tryz.underlying3 (k:=8) (rdV 156) (by intro v hv;simp at hv)
 have b9:Below w.heap.size w w9:=⟨o9.trans b8.os,t9.trans b8.tape,p9.trans b8.output,by rw[s9];exact b8.size,fun i hi=>(k9 i (by omega)).trans (b8.block i hi)⟩
 go_enter Tryz.func113,Tryz.ntmps113
 have e9':Dx w9 m (fun k v=>∃f,rdF k=some f∧v=rdV f):=e9.congr fun k v=>by
  unfold rdF
  constructor
  ·intro h
   simp only[false_or] at h
   rcases h with(((((((h|h)|h)|h)|h)|h)|h)|h)|h
   all_goals(obtain⟨rfl,rfl⟩:=h;exact⟨_,rfl,rfl⟩)
  ·rintro⟨f,hf,rfl⟩
   split at hf
   ·rename_i h;cases hf;subst h;simp
   ·split at hf
    ·rename_i h;cases hf;rcases h with rfl|rfl|rfl<;>simp
    ·split at hf
     ·rename_i h;cases hf;rcases h with rfl|rfl<;>simp
     ·split at hf
      ·rename_i h;cases hf;subst h;simp
      ·split at hf
       ·rename_i h;cases hf;subst h;simp
       ·split at hf
        ·rename_i h;cases hf;subst h;simp
        ·cases hf
 subst hm
 simp only[rdV] at r1 r2 r3 r4 r5 r6 r7 r8 r9
 have E9:=Zh e9';have B9:=Zh b9
 clear e0 e1 e2 e3 e4 e5 e6 e7 e8 e9 e9' b0 b1 b2 b3 b4 b5 b6 b7 b8 b9 k1 k2 k3 k4 k5 k6 k7 k8 k9 s1 s2 s3 s4 s5 s6 s7 s8 s9 o1 o2 o3 o4 o5 o6 o7 o8 o9 t1 t2 t3 t4 t5 t6 t7 t8 t9 p1 p2 p3 p4 p5 p6 p7 p8 p9
 go_wp2
 go_ret
 exact⟨_,rfl,Nat.le_refl _,E9.out,B9.out⟩
def QC:(Nat→Nat→Prop)→World→Value→Prop:=fun _ w v=>∃m,v= .map (some m)∧Dx w m (fun k v=>∃f,rdF k=some f∧v=rdV f)
def rdA:AV:= .sem QC
theorem Dx.nc {w w':World} {m:Nat} {R:Int→Value→Prop} (h:Dx w m R) (hn:NC w w'):Dx w' m R:=by
 obtain⟨es,c,h1,h2⟩:=h
 exact⟨es,c,hn m _ h1 (fun _ _ _ e=>by cases e),h2⟩
theorem Gu:Ab Tryz.prog 113 [] (fun r=>r=rdA):=by
 refine .of Tryz.func113 (by kernel_rfl) rfl rfl fun w fp0 bm gt vs hG hr=> ?_
 match vs,hr with
 |[],_=>
  refine(aL w).mono ?_
  rintro e w' ⟨m,rfl,hm,hM,hb⟩
  exact⟨_,rfl,hb,fun fp _ _ bm gt=> .sem rfl fun z' w2 _ _ hn=>⟨m,rfl,hM.nc hn⟩⟩
def fnA (k:Int):AV:=match rdF k with
 |some f=> .d (.fn f [])
 |none=> .d (.v .nilFunc)
theorem Iw {C:Cx} {o:Oper} {σ:AS} {t:Nat} {x y:Operand} {k:Int} (ho:o.op= .lookup 181 x y true) (hd:o.dst=some t) (ht:t<C.N) (hx:σ.eval x=some rdA) (hy:σ.eval y=some (iv k)):
 LA Tryz.prog C o ⟨[],some (t,.tup [fnA k,bv (rdF k).isSome]),none,none,[],[],[],[]⟩ σ:=fun σ' hT _ _=>by
 have hx':=tr hT (x:=x) (by rw[ho];simp[Op.operands]) hx
 have hy':=tr hT (x:=y) (by rw[ho];simp[Op.operands]) hy
 refine Ba hd ht fun a w bm gt fp hg=> ?_
 have h:=hg.eval hx'
 have hyv:=(hg.eval hy').val
 generalize hv:a.eval x=v at h
 unfold rdA at h
 cases h with
 |sem _ h=>
  obtain⟨m,rfl,hM⟩:=h bm.z w (fun _ _ h=>h) (fun _ _ _=>rfl) (NC.refl w)
  cases hk:rdF k with
  |some f=>
   have hl:=hM.look (P:=Tryz.prog) Tryz.underlying181 Tryz.underlying3 (k:=k) (v:=rdV f) ⟨f,hk,rfl⟩
   refine⟨.tuple #[rdV f,.bool true],?_,.tup [_,_] rfl fun i u v hu hv=> ?_⟩
   ·simp only[execOp,ho,hv,hyv,hl,Sem.run_bind,Sem.run_pure,Result.andThen_ok]
   ·match i with
    |0=>simp[fnA,hk] at hu hv;subst hu hv;exact .d (.fn [] rfl (fun i d u hd=>by simp at hd))
    |1=>simp at hu hv;subst hu hv;exact .d (.v _)
  |none=>
   have hl:=hM.miss (P:=Tryz.prog) Tryz.underlying181 Tryz.underlying3 (k:=k) (z:= .nilFunc) (fun w=>by kernel_rfl) (fun v ⟨f,hf,_⟩=>by rw[hk] at hf;cases hf)
   refine⟨.tuple #[.nilFunc,.bool false],?_,.tup [_,_] rfl fun i u v hu hv=> ?_⟩
   ·simp only[execOp,ho,hv,hyv,hl,Sem.run_bind,Sem.run_pure,Result.andThen_ok]
   ·match i with
    |0=>simp[fnA,hk] at hu hv;subst hu hv;exact .d (.v _)
    |1=>simp at hu hv;subst hu hv;exact .d (.v _)
theorem eqi (d:Nat) (k k':Int) (w:World):(Op.equalIn (d+1) 3 (.int .i64 k) (.int .i64 k')).run Tryz.prog w= .ok (k==k') w:=by
 simp[Op.equalIn,Sem.run_bind,run_underlying Tryz.underlying3,Result.andThen]
theorem eqs (d:Nat) (s s':ByteArray) (w:World):(Op.equalIn (d+1) 9 (.string s) (.string s')).run Tryz.prog w= .ok (s==s') w:=by
 simp[Op.equalIn,Sem.run_bind,run_underlying Tryz.underlying9,Result.andThen]
theorem PE (d:Nat) (k k':Int) (s s':ByteArray) (w:World):(Op.equalIn (d+2) 53 (.agg #[.int .i64 k,.string s]) (.agg #[.int .i64 k',.string s'])).run Tryz.prog w= .ok (k==k'&&s==s') w:=by
 have h0:Tryz.prog.stoodInHeld 53=false:=by kernel_rfl
 have p1:∀w,(part 3 #[.int .i64 k,.string s] 0).run Tryz.prog w= .ok (.int .i64 k) w:=fun w=>by kernel_rfl
 have p2:∀w,(part 3 #[.int .i64 k',.string s'] 0).run Tryz.prog w= .ok (.int .i64 k') w:=fun w=>by kernel_rfl
 have p3:∀w,(part 9 #[.int .i64 k,.string s] 1).run Tryz.prog w= .ok (.string s) w:=fun w=>by kernel_rfl
 have p4:∀w,(part 9 #[.int .i64 k',.string s'] 1).run Tryz.prog w= .ok (.string s') w:=fun w=>by kernel_rfl
 have e1:=eqi d k k'
 have e2:=eqs d s s'
 unfold Op.equalIn
 cases hk:(k==k') with
 |true=>
  simp only[hk] at e1
  cases hs:(s==s') with
  |true=>simp only[hs] at e2;simp[Sem.run_bind,run_underlying Tryz.underlying53,Result.andThen,program,h0,Sem.run,p1,p2,p3,p4,e1,e2]
  |false=>simp only[hs] at e2;simp[Sem.run_bind,run_underlying Tryz.underlying53,Result.andThen,program,h0,Sem.run,p1,p2,p3,p4,e1,e2]
 |false=>
  simp only[hk] at e1
  simp[Sem.run_bind,run_underlying Tryz.underlying53,Result.andThen,program,h0,Sem.run,p1,p2,e1]
theorem FX (l l':List UInt8):((⟨l.toArray⟩:ByteArray)==⟨l'.toArray⟩)=(l==l'):=by show(l.toArray==l'.toArray)=(l==l');simp
theorem LL (x y:Operand) (k k':Int) (l l':List UInt8) (w:World):
 (do eqGuard .eql 53 x y (.agg #[.int .i64 k,.string ⟨l.toArray⟩]) (.agg #[.int .i64 k',.string ⟨l'.toArray⟩]);binOp .eql 53 (.agg #[.int .i64 k,.string ⟨l.toArray⟩]) (.agg #[.int .i64 k',.string ⟨l'.toArray⟩]):Sem Value).run Tryz.prog w= .ok (.bool (k==k'&&l==l')) w∧(do eqGuard .neq 53 x y (.agg #[.int .i64 k,.string ⟨l.toArray⟩]) (.agg #[.int .i64 k',.string ⟨l'.toArray⟩]);binOp .neq 53 (.agg #[.int .i64 k,.string ⟨l.toArray⟩]) (.agg #[.int .i64 k',.string ⟨l'.toArray⟩]):Sem Value).run Tryz.prog w= .ok (.bool (!(k==k'&&l==l'))) w:=by
 have hg:Tryz.prog.eqGuardType Tryz.prog.depth 53=false:=by kernel_rfl
 have e:∀w,(Op.equal 53 (.agg #[.int .i64 k,.string ⟨l.toArray⟩]) (.agg #[.int .i64 k',.string ⟨l'.toArray⟩])).run Tryz.prog w= .ok (k==k'&&l==l') w:=fun w=>by rw[←FX l l'];exact PE 9998 k k' _ _ w
 constructor
 ·simp[eqGuard,program,Sem.run_bind,Sem.run,Result.andThen,hg,binOp,e]
 ·simp[eqGuard,program,Sem.run_bind,Sem.run,Result.andThen,hg,binOp,e]
section
variable {C:Cx} {o:Oper} {σ:AS} {t:Nat}
theorem Eb {k k':Int} {l l':List UInt8} {yt:TypeId} {x y:Operand} (ho:o.op= .binOp .eql 53 x y yt) (hd:o.dst=some t) (ht:t<C.N) (hx:σ.eval x=some (.agg [iv k,.d (.v (.string ⟨⟨l⟩⟩))])) (hy:σ.eval y=some (.agg [iv k',.d (.v (.string ⟨⟨l'⟩⟩))])):
 Bp Tryz.prog C o σ (σ.put t (bv (k==k'&&l==l'))):=
 Ba hd ht fun a w bm gt fp hg=>⟨_,by
  have h1:=yZ (hg.eval hx)
  have h2:=yZ (hg.eval hy)
  simp only[execOp,ho,h1,h2]
  rw[Sem.run_bind,(LL x y k k' l l' w).1]
  rfl,.d (.v _)⟩
end
def LM (x:UInt8):UInt8:=if 65≤x.toNat∧x.toNat≤90 then UInt8.ofNat (x.toNat+32) else x
def Rw (B:Nat) (l:List UInt8) (k:Nat) (w:World):Prop:=∀j x,l[j]?=some x→w.cell? ⟨B,j,none⟩=some (.int .u8 (if j<k then LM x else x).toNat)∧w.frozen? ⟨B,j,none⟩=false
theorem Rw.skip {B:Nat} {l:List UInt8} {k:Nat} {w:World} (h:Rw B l k w) {x:UInt8} (hx:l[k]?=some x) (e:LM x=x):Rw B l (k+1) w:=fun j y hy=>by
 obtain⟨h1,h2⟩:=h j y hy
 refine⟨?_,h2⟩
 rw[h1]
 by_cases hj:j=k
 ·subst hj
  rw[hx] at hy;cases hy
  rw[if_neg (by omega),if_pos (by omega),e]
 ·by_cases hk:j<k
  ·rw[if_pos hk,if_pos (by omega)]
  ·rw[if_neg hk,if_neg (by omega)]
theorem Rw.put {B:Nat} {l:List UInt8} {k:Nat} {w:World} (h:Rw B l k w) {x:UInt8} (hx:l[k]?=some x):Rw B l (k+1) (w.setCell ⟨B,k,none⟩ (.int .u8 (LM x).toNat)):=fun j y hy=>by
 obtain⟨h1,h2⟩:=h j y hy
 by_cases hj:j=k
 ·subst hj
  rw[hx] at hy;cases hy
  rw[World.cell?_setCell_same _ _ _ h1,if_pos (by omega)]
  exact⟨rfl,by simpa using h2⟩
 ·rw[World.cell?_setCell_other _ _ _ _ (by simp),h1]
  refine⟨?_,by simpa using h2⟩
  by_cases hk:j<k
  ·rw[if_pos hk,if_pos (by omega)]
  ·rw[if_neg hk,if_neg (by omega)]
structure Att where
 oid:List UInt8
 val:List UInt8
 deriving DecidableEq
structure Gn where
 k:Int
 oid:List UInt8
 tx:List UInt8
 by':List UInt8
 nm:List (List Att)
 ak:Int
 av:List UInt8
 pk:Int
 pv:List UInt8
 deriving DecidableEq
abbrev sD (l:List UInt8):D:= .v (.string ⟨⟨l⟩⟩)
abbrev iD (n:Int):D:= .v (.int .i64 n)
def atC (a:Att):List D:=[sD a.oid,Af false a.val]
def Hh (r:List Att):D:=Fb false 2 atC r
def zA (r:List Att):List D:=[Hh r]
def Hi (n:List (List Att)):D:=Fb false 1 zA n
def gnC (g:Gn):List D:=[iD g.k,sD g.oid,sD g.tx,Af false g.by',Hi g.nm,iD g.ak,sD g.av,iD g.pk,sD g.pv]
def Gy (l:List Gn):D:=Fb false 9 gnC l
theorem oC (a:Att):D.uns (atC a)=atC a:=by simp only[atC,D.uns,An,D.un]
theorem Bn (r:List Att):(Hh r).un=Hh r:=Kc oC false 2 r
theorem zB (r:List Att):D.uns (zA r)=zA r:=by simp only[zA,D.uns,Bn]
theorem Bd (n:List (List Att)):(Hi n).un=Hi n:=Kc zB false 1 n
theorem B8 (g:Gn):D.uns (gnC g)=gnC g:=by simp only[gnC,D.uns,An,Bd,D.un]
theorem Ca (l:List Gn):(Gy l).un=Gy l:=Kc B8 false 9 l
theorem Ck (a:Att):D.uns (atC a)=atC a:=oC a
abbrev atA (a:Att):AV:= .agg [.d (sD a.oid),.d (Af false a.val)]
abbrev gnA (g:Gn):AV:= .agg [iv g.k,.d (sD g.oid),.d (sD g.tx),.d (Af false g.by'),.d (Hi g.nm),iv g.ak,.d (sD g.av),iv g.pk,.d (sD g.pv)]
def big:Nat:=9223372036854775807
structure Att.ok (a:Att):Prop where
 o:a.oid.length≤big
 v:a.val.length≤big
structure Gn.ok (g:Gn):Prop where
 o:g.oid.length≤big
 t:g.tx.length≤big
 b:g.by'.length≤big
 n:g.nm.length≤big∧∀r∈g.nm,r.length≤big∧∀a∈r,a.ok
 a:g.av.length≤big
 p:g.pv.length≤big
def TxK (k:Int):Prop:=k=1∨k=2∨k=6
structure TxOk (n:Nat) (l b:List UInt8):Prop where
 kind:TxK n
 small:b.length≤100000∧l.length≤100000
 enc:I2 22 l=0
 put:Ah 2 n false (Fh 22 l)=b
 rd:∃body,body≤b.length∧Bj b=⟨⟨2,n,false,0,body,b.length⟩,0,0⟩∧D7 22 (b.drop body)=0
theorem E5 (c n:Nat) (k:Bool) (l:List UInt8) (h:l.length<128):Ah c n k l=UInt8.ofNat (idN c k n)::UInt8.ofNat l.length::l:=by
 unfold Ah Kb Fm
 rw[if_pos h,C4 (by omega)];rfl
end Go.Proofs.YtokmjjkbginodaaGreatDoor
