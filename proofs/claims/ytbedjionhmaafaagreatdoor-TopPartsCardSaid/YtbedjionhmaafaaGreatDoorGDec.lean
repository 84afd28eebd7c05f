/- GDec: the texts Dec DecP DecO, one behind the other. No condition but what each lemma says. -/
import Derived.Test.YtbedjionhmaafaaGreatDoorGChunk
import Derived.Test.YtbedjionhmaafaaGreatDoorGChunk3
import Derived.Test.YtbedjionhmaafaaGreatDoorGBuild
import Derived.Test.YtbedjionhmaafaaGreatDoorGEncode
set_option linter.all false
namespace Go.Proofs.YtbedjionhmaafaaGreatDoor
open Go.RowKit Go.Shelf
variable {w w':World} {B b:Nat}
attribute [local go_sem] Oper.semAt_some
theorem Ng (h:Below w.heap.size w w'):KeepsOthers w w':=
 ⟨h.size,fun k _ a _=>(h.block k (Br.1 a).1).trans a⟩
theorem Vs {F:Fence} {n:Nat} {P:Program} {e:Func} {R:Ending→World→Prop} {a:Act} {c d:ResultVar} {v1 v2:Value} (g:e.results=#[c,d]) (f:Kw P w a.tmps c v1) (i:Kw P w a.tmps d v2) (j:a.defers=[]) (h:R (.returned (.tuple #[v1,v2])) w):bodyPostM F n P e R .ret a w:=by
 unfold bodyPostM
 simp only[]
 rw[j]
 exact⟨_,Sf g f i,h⟩
theorem Uf {F:Fence} {n:Nat} {P:Program} {e:Func} {R:Ending→World→Prop} {a:Act} {c d:ResultVar} {v1 v2:Value} {D:Nat} (h:e.results=#[c,d]) (g:w.heap[D]?=some (.deferred (some [])))
 (f:Kw P (w.putObj D (.deferred none)) a.tmps c v1) (j:Kw P (w.putObj D (.deferred none)) a.tmps d v2) (k:a.defers=[{target:= .collected D,args:=#[]}]) (i:R (.returned (.tuple #[v1,v2])) (w.putObj D (.deferred none))):bodyPostM F n P e R .ret a w:=by
 unfold bodyPostM
 simp only[]
 rw[k]
 exact⟨Ab,.inl ⟨_,_,rfl,run_takeDeferred g,_,Sf h f j,i⟩⟩
theorem Zf {w1:World} (hB:w.heap.size=B) (hb:Below ((w.alloc (.cells #[.int .i64 0,.string {data:=#[]}] 433)).alloc (.cells #[.int .i64 0] 39)).heap.size ((w.alloc (.cells #[.int .i64 0,.string {data:=#[]}] 433)).alloc (.cells #[.int .i64 0] 39)) w1):
 (w1.cell? ⟨B,0,none⟩=some (.int .i64 0)∧w1.cell? ⟨B,1,none⟩=some (.string {data:=#[]})∧w1.cell? ⟨B+1,0,none⟩=some (.int .i64 0))∧
   (w1.frozen? ⟨B,0,none⟩=false∧w1.frozen? ⟨B,1,none⟩=false∧w1.frozen? ⟨B+1,0,none⟩=false)∧Below B w w1∧B+2≤w1.heap.size:=by
 subst hB
 have hz:=hb.size
 simp only[Dj] at hz
 refine⟨⟨?_,?_,?_⟩,⟨?_,?_,?_⟩,?_,Aa⟩
 ·exact(hb.cell (p:=⟨w.heap.size,0,none⟩) Af).trans (by simp[go_sem])
 ·exact(hb.cell (p:=⟨w.heap.size,1,none⟩) Af).trans (by simp[go_sem])
 ·exact(hb.cell (p:=⟨w.heap.size+1,0,none⟩) Ab).trans (by simp[go_sem])
 ·exact(hb.frozen (p:=⟨w.heap.size,0,none⟩) Af).trans (by simp[go_sem])
 ·exact(hb.frozen (p:=⟨w.heap.size,1,none⟩) Af).trans (by simp[go_sem])
 ·exact(hb.frozen (p:=⟨w.heap.size+1,0,none⟩) Ab).trans (by simp[go_sem])
 ·exact(((Bq _ _).alloc (At _) _).alloc Ab _).trans (hb.mono Af)
theorem Rt {T e:TypeId} {p:Value} {n:List Value} {row:Option Nat} (h:Lib.BuilderAt T e B b p n w) (m:w.grownBy w' row) (l:∀r,row=some r→∃o:Obj,w.heap[r]?=some o∧o.isCells=false):Lib.BuilderAt T e B b p n w':=by
 obtain⟨s,v,j,a,f⟩:=h
 refine⟨s,v,?_,a.kept m ?_,f⟩
 ·rw[m.block b (Br.1 j).1 (fun e=>by obtain⟨o,c,i⟩:=l b e.symm;rw[j] at c;cases c;cases i)];exact j
 ·cases k:v.ownBlock with
  |none=>exact .inl rfl
  |some g=>
   refine .inr fun e=> ?_
   obtain⟨o,c,i⟩:=l g e.symm
   rcases a.2 with q|⟨t,u,cur,rfl,x,d,_⟩
   ·rw[q.1] at k;cases k
   ·have:t=g:=by simpa[Value.ownBlock] using k
    subst this
    rw[d] at c;cases c;cases i
theorem Ug {d:Type} (T e:TypeId) (B b:Nat) (f:d→List Value):Own (fun s W=>Lib.IsBuilder T e B b (f s) W):=fun _ _ _ _ g c a=>
 g.elim (fun h=> .inl (Rt h c a)) (fun h=> .inr (Rt h c a))
theorem JG (v b:Nat) (e:v<16777216) (d:b<256):bits .or .u32 ((v:Int)*256) ((b:Int)%4294967296)=((v*256+b:Nat):Int):=by
 have a:(v:Int)*256=((2^8*v:Nat):Int):=Aa
 have c:(b:Int)%4294967296=(b:Int):=Aa
 rw[a,c,u32_or_nat _ _ Aa Aa,←Nat.two_pow_add_eq_or_of_lt Aa v]
 congr 1;omega
theorem Xh {a:Type} (f:a→Nat):∀l:List a,(l.flatMap fun q=>enc (f q)).length≤4*l.length
 |[]=>by simp
 |x::l=>by
  have:=Xh f l
  grind [N4,En,D9]
theorem fI {W c:World} {row:Option Nat} {cs:Array Value} {T:TypeId} {f:Nat×Nat} (h:W.heap[b]?=some (.cells cs T f)) (g:W.grownBy c row) (d:∀r,row=some r→∃o:Obj,W.heap[r]?=some o∧o.isCells=false):c.heap[b]?=some (.cells cs T f):=by
 rw[g.block b (Br.1 h).1 (fun e=>by obtain⟨o,a,i⟩:=d b e.symm;rw[h] at a;cases a;cases i)];exact h
theorem KeepsOthers.of_heap {W a:World} (h:a.heap=W.heap):KeepsOthers W a:=⟨by rw[h];exact At _,fun k o c _=>by rw[h];exact c⟩
theorem TW {k:Int} {v:Nat} (h:1114111<v):Hz k v=false:=by
 cases a:Hz k v with
 |false=>rfl
 |true=>have:=Qd a;rw[I0] at this;omega
theorem Le {T e:TypeId} {c:List Value} (h:Lib.IsBuilder T e B b c w) (a:Below w.heap.size w w'):Lib.IsBuilder T e B b c w':=
 Ug T e B b (fun _:Unit=>c) () _ _ none h ⟨a.os,a.tape,a.output,a.size,fun k d _=>a.block k d⟩ (fun r e=>by cases e)
set_option maxRecDepth 100000 in
set_option maxHeartbeats 4000000 in
theorem TX (k:Int) (_:Nat→Prop) (v:Value) (c:List UInt8) (w:World) (hk:E6 k<0):
 Calls Tryz.prog 412 #[.int .i64 k,v] w (Vp k c w):=by
 refine(callsIn_wide (n:=3)).1 ?_
 refine callsIn_of_wp_marks Tryz.func412 rfl trivial ?_ rfl
 simp only[Tryz.ntmps412,List.size_toArray,D9,Ax,Nat.reduceAdd,Nat.reduceSub,Array.replicate_succ,Array.replicate_zero,List.push_toArray,List.append_toArray,Ap,Ak]
 obtain⟨B,hB⟩:∃B,w.heap.size=B:=⟨_,rfl⟩
 have HB:=Zh hB
 gi_wp2_with (first|(refine⟨trivial,?_⟩;gi_at_call 409;refine(callsIn_wide.2 (Oe _)).mono ?_;rintro e w1 ⟨m,n,b,rfl,hF,hl,hb⟩;obtain⟨⟨r0,r1,r2⟩,⟨z0,z1,z2⟩,hbw,hsz⟩:=Zf hB hb;have hB1:B<w1.heap.size:=by{omega};have hB2:B+1<w1.heap.size:=by{omega};have hlook:=hF.1.miss Tryz.underlying596 Tryz.underlying3 mB (Z7 (n:=n) (b:=b) hk)))
 have hz0:((((w1.setCell ⟨B,0,none⟩ (.int .i64 0)).setCell ⟨B,1,none⟩ (.string {data:=#[]})).setCell ⟨B+1,0,none⟩ (.int .i64 3)).alloc (.cells #[.nilFunc,.int .i64 0] 595)).cell? ⟨B+1,0,none⟩=some (.int .i64 3):=by simp[go_sem,hB2,r2]
 refine Vs (v1:= .agg #[.int .i64 0,.string {data:=#[]}]) (v2:= .int .i64 3) Tryz.results412 ⟨_,rfl,J0 _ _ _ 0 [.int .i64 0,.string {data:=#[]}] _ Tryz.underlying433 rfl Ac (Xd ?_ ?_)⟩ ⟨_,rfl,?_⟩ rfl ⟨by unfold Rx Ke Lz;simp[hk],?_⟩
 ·simp[go_sem,hB1,r0]
 ·simp[go_sem,hB1,r1]
 ·simp[go_sem,hB2,r2]
 ·exact(by(repeat (first|exact HB.out▸hbw|refine Below.setCell ?_ ?_ _|refine Below.alloc ?_ ?_ _|refine Below.drew ?_))<;>first|omega|(simp;done)|(simp;omega))
set_option maxRecDepth 100000 in
set_option maxHeartbeats 4000000 in
theorem TY (k:Int) (S:Nat→Prop) (v:Value) (c:List UInt8) (w:World) (hrd:Je S w v c) (W:Nat) (hk:E6 k=(W:Int)) (h1:1<W) (hm:c.length%W≠0):
 Calls Tryz.prog 412 #[.int .i64 k,v] w (Vp k c w):=by
 refine(callsIn_wide (n:=3)).1 ?_
 refine callsIn_of_wp_marks Tryz.func412 rfl trivial ?_ rfl
 simp only[Tryz.ntmps412,List.size_toArray,D9,Ax,Nat.reduceAdd,Nat.reduceSub,Array.replicate_succ,Array.replicate_zero,List.push_toArray,List.append_toArray,Ap,Ak]
 obtain⟨B,hB⟩:∃B,w.heap.size=B:=⟨_,rfl⟩
 have HB:=Zh hB
 obtain⟨a,cp,rfl,hq1,hq2,hq3,hq4⟩:=hrd
 have hok:okD k c=false:=by
  cases ho:okD k c with
  |false=>rfl
  |true=>grind [absurd,mA]
 have hneg:¬E6 k<0:=by rw[hk];omega
 have HOK:=Zh hok;clear hok
 obtain⟨nc,hn⟩:∃n,c.length=n:=⟨_,rfl⟩
 rw[hn] at hm⊢
 clear hq1 hq2 hq3 hq4 hn
 have q1:(nc:Int).tmod W≠0:=by rw[←Int.ofNat_tmod];exact_mod_cast hm
 have q2:((nc:Int).tmod W==0)=false:=by simpa using q1
 have d1:decide ((1:Int)<(W:Int))=true:=by rw[A2];omega
 gi_wp2_with (first|(refine⟨trivial,?_⟩;gi_at_call 409;refine(callsIn_wide.2 (Oe _)).mono ?_;rintro e w1 ⟨m,n,b,rfl,hF,hl,hb⟩;obtain⟨⟨r0,r1,r2⟩,⟨z0,z1,z2⟩,hbw,hsz⟩:=Zf hB hb;have hB1:B<w1.heap.size:=by{omega};have hB2:B+1<w1.heap.size:=by{omega};obtain⟨fv,wd,hlook,-,hok⟩:=Tc hF k true (by simp only[true_iff];omega);obtain⟨g,cap,rfl,rfl,hch⟩:=hok rfl;rw[hk] at hlook))
 refine Vs (v1:= .agg #[.int .i64 0,.string {data:=#[]}]) (v2:= .int .i64 6) Tryz.results412 ⟨_,rfl,J0 _ _ _ 0 [.int .i64 0,.string {data:=#[]}] _ Tryz.underlying433 rfl Ac (Xd ?_ ?_)⟩ ⟨_,rfl,?_⟩ rfl ⟨by unfold Rx Ke Lz;simp[hneg,HOK.out],?_⟩
 ·simp[go_sem,hB1,r0]
 ·simp[go_sem,hB1,r1]
 ·simp[go_sem,hB2,r2]
 ·exact(by(repeat (first|exact HB.out▸hbw|refine Below.setCell ?_ ?_ _|refine Below.alloc ?_ ?_ _|refine Below.drew ?_))<;>first|omega|(simp;done)|(simp;omega))
set_option maxRecDepth 100000 in
set_option maxHeartbeats 4000000 in
theorem JH (k:Int) (S:Nat→Prop) (v:Value) (c:List UInt8) (w:World) (hrd:Je S w v c) (hs:c.length≤1000000) (hk:E6 k=0) (hT:Lib.Utf8Tabs 6 7 w):
 Calls Tryz.prog 412 #[.int .i64 k,v] w (Vp k c w):=by
 refine(callsIn_wide (n:=3)).1 ?_
 refine callsIn_of_wp_marks Tryz.func412 rfl trivial ?_ rfl
 simp only[Tryz.ntmps412,List.size_toArray,D9,Ax,Nat.reduceAdd,Nat.reduceSub,Array.replicate_succ,Array.replicate_zero,List.push_toArray,List.append_toArray,Ap,Ak]
 obtain⟨B,hB⟩:∃B,w.heap.size=B:=⟨_,rfl⟩
 have HB:=Zh hB
 have hst:=fun(w2:World) (hh:Je S w2 v c)=>Je.string (P:=Tryz.prog) hh 22 9 5 Tryz.underlying22 Tryz.underlying5 Tryz.underlying9
 have HRD:=Zh hrd;clear hrd
 have hok:okD k c=Ey k c:=by unfold okD Ok chS;rw[Aj hk];simp[hk]
 have hdb:Ok k c=c:=by unfold Ok;rw[Aj hk]
 have hneg:¬E6 k<0:=by rw[hk];omega
 have HY:=Zh (show Ey k c=true→Rx k c=k∧Ke k c=c∧Lz k c=0 from fun h=>by unfold Rx Ke Lz;grind)
 have HNO:=Zh (show Ey k c=false→Rx k c=0∧Ke k c=[]∧Lz k c=6 from fun h=>by unfold Rx Ke Lz;grind)
 clear hok hdb
 gi_wp2_with (first|(refine⟨trivial,?_⟩;gi_at_call 409;refine(callsIn_wide.2 (Oe _)).mono ?_;rintro e w1 ⟨m,n,b,rfl,hF,hl,hb⟩;obtain⟨⟨r0,r1,r2⟩,⟨z0,z1,z2⟩,hbw,hsz⟩:=Zf hB hb;have hB1:B<w1.heap.size:=by{omega};have hB2:B+1<w1.heap.size:=by{omega};obtain⟨fv,wd,hlook,-,hok⟩:=Tc hF k true (by simp only[true_iff];omega);obtain⟨g,cap,rfl,rfl,hch⟩:=hok rfl;rw[hk] at hlook))
 go_goals
 have hc1:=hst (w1.alloc (Obj.cells #[.func (.func g) #[] cap,.int .i64 0] 595)) (HRD.out.below (by rw[hB];exact hbw.alloc Aa _))
 rw[hc1]
 simp only[Result.andThen]
 rw[Oper.uponIn_value]
 gi_wp2
 obtain⟨F0,hF0⟩:∃F0,w1.heap.size=F0:=⟨_,rfl⟩
 obtain⟨W0,hW0⟩:∃W0,(w1.alloc (.cells #[.func (.func g) #[] cap,.int .i64 0] 595)).alloc (.cells #[.int .i64 k,.string {data:=c.toArray}] 433)=W0:=⟨_,rfl⟩
 have hsz0:W0.heap.size=F0+2:=by rw[←hW0,←hF0];simp
 have hw1:Below F0 w1 W0:=by rw[←hW0,←hF0];exact((Bq _ _).alloc (At _) _).alloc Ab _
 have p0:W0.cell? ⟨F0+1,0,none⟩=some (.int .i64 k):=by rw[←hW0,←hF0];simp[go_sem]
 have p1:W0.cell? ⟨F0+1,1,none⟩=some (.string {data:=c.toArray}):=by rw[←hW0,←hF0];simp[go_sem]
 have keep:∀{p:Addr},p.block<F0→W0.cell? p=w1.cell? p∧W0.frozen? p=w1.frozen? p:=fun hp=>⟨hw1.cell hp,hw1.frozen hp⟩
 have g0:=(keep (p:=⟨B,0,none⟩) Af).1.trans r0
 have g1:=(keep (p:=⟨B,1,none⟩) Af).1.trans r1
 have g2:=(keep (p:=⟨B+1,0,none⟩) Af).1.trans r2
 have y0:=(keep (p:=⟨B,0,none⟩) Af).2.trans z0
 have y1:=(keep (p:=⟨B,1,none⟩) Af).2.trans z1
 have y2:=(keep (p:=⟨B+1,0,none⟩) Af).2.trans z2
 have hbW:Below B w W0:=hbw.trans (hw1.mono Aa)
 rw[hW0]
 simp only[hF0]
 clear hW0 keep r0 r1 r2 z0 z1 z2 hlook hok hch hb hl hc1 hst
 refine⟨trivial,(callsIn_wide.2 (Td k ⟨c.toArray⟩ (by simp[ByteArray.size];omega) W0 (Utf8Tabs_below hT (by rw[hB];exact hbW)))).mono ?_⟩
 rintro e w9 ⟨rfl,hb9⟩
 have hs9:=hb9.size
 have q0:=(hb9.cell (p:=⟨F0+1,0,none⟩) Af).trans p0
 have q1:=(hb9.cell (p:=⟨F0+1,1,none⟩) Af).trans p1
 have a0:=(hb9.cell (p:=⟨B,0,none⟩) Af).trans g0
 have a1:=(hb9.cell (p:=⟨B,1,none⟩) Af).trans g1
 have a2:=(hb9.cell (p:=⟨B+1,0,none⟩) Af).trans g2
 have z0:=(hb9.frozen (p:=⟨B,0,none⟩) Af).trans y0
 have z1:=(hb9.frozen (p:=⟨B,1,none⟩) Af).trans y1
 have z2:=(hb9.frozen (p:=⟨B+1,0,none⟩) Af).trans y2
 have hbf:Below B w w9:=hbW.trans (hb9.mono Aa)
 have hc:(ByteArray.mk c.toArray).data.toList=c:=Ab
 rw[hc]
 clear p0 p1 g0 g1 g2 y0 y1 y2
 rcases Bool.eq_false_or_eq_true (Ey k c) with hv|hv
 ·rw[hv]
  have HV:=Zh hv;clear hv
  gi_wp2
  refine Vs (v1:= .agg #[.int .i64 k,.string {data:=c.toArray}]) (v2:= .int .i64 0) Tryz.results412 ⟨_,rfl,J0 _ _ _ 0 [.int .i64 k,.string {data:=c.toArray}] _ Tryz.underlying433 rfl Ac (Xd ?_ ?_)⟩ ⟨_,rfl,?_⟩ rfl ⟨by rw[(HY.out HV.out).1,(HY.out HV.out).2.1,(HY.out HV.out).2.2],?_⟩
  ·simp[go_sem,a0]
  ·simp[go_sem,a1]
  ·simp[go_sem,a2]
  ·exact HB.out▸(((hbf.setCell (p:=⟨B,0,none⟩) (At _) _).setCell (p:=⟨B,1,none⟩) (At _) _).setCell (p:=⟨B+1,0,none⟩) (Nat.le_succ _) _)
 ·rw[hv]
  have HV:=Zh hv;clear hv
  gi_wp2
  refine Vs (v1:= .agg #[.int .i64 0,.string {data:=#[]}]) (v2:= .int .i64 6) Tryz.results412 ⟨_,rfl,J0 _ _ _ 0 [.int .i64 0,.string {data:=#[]}] _ Tryz.underlying433 rfl Ac (Xd ?_ ?_)⟩ ⟨_,rfl,?_⟩ rfl ⟨by rw[(HNO.out HV.out).1,(HNO.out HV.out).2.1,(HNO.out HV.out).2.2],?_⟩
  ·simp[go_sem,a0]
  ·simp[go_sem,a1]
  ·simp[go_sem,a2]
  ·exact HB.out▸(((hbf.setCell (p:=⟨B,0,none⟩) (At _) _).setCell (p:=⟨B,1,none⟩) (At _) _).setCell (p:=⟨B+1,0,none⟩) (Nat.le_succ _) _)
attribute [local go_sem] Oper.semAt_some
set_option maxRecDepth 100000 in
set_option maxHeartbeats 4000000 in
theorem TZ (k:Int) (S:Nat→Prop) (v:Value) (c:List UInt8) (w:World) (hrd:Je S w v c) (hs:c.length≤1000000) (W:Nat) (hk:E6 k=(W:Int)) (h1:1≤W) (hW4:W≤4)
 (hT:Lib.Utf8Tabs 6 7 w) (hm:c.length%W=0):
 Calls Tryz.prog 412 #[.int .i64 k,v] w (Vp k c w):=by
 refine(callsIn_wide (n:=3)).1 ?_
 refine callsIn_of_wp_marks Tryz.func412 rfl trivial ?_ rfl
 simp only[Tryz.ntmps412,List.size_toArray,D9,Ax,Nat.reduceAdd,Nat.reduceSub,Array.replicate_succ,Array.replicate_zero,List.push_toArray,List.append_toArray,Ap,Ak]
 obtain⟨B,hB⟩:∃B,w.heap.size=B:=⟨_,rfl⟩
 have HB:=Zh hB
 have hst:=fun(w2:World) (hh:Je S w2 v c)=>Je.string (P:=Tryz.prog) hh 22 9 5 Tryz.underlying22 Tryz.underlying5 Tryz.underlying9
 obtain⟨a,cp,rfl,hq1,hq2,hq3,hq4⟩:=hrd
 obtain⟨nc,hn⟩:∃n,c.length=n:=⟨_,rfl⟩
 rw[hn] at hq1 hq3 hs hm hst⊢
 have HN:=Zh hn;have HQ:=Zh hq4;have HQ3:=Zh hq3
 have hrd0:Je S w (.slice a nc cp) c:=⟨a,cp,by rw[HN.out],by rw[HN.out];exact hq1,hq2,by rw[HN.out];exact HQ3.out,HQ.out⟩
 have HRD:=Zh hrd0;clear hrd0 hn hq4 hq3
 have q1:(nc:Int).tmod W=0:=by rw[←Int.ofNat_tmod];exact_mod_cast hm
 obtain⟨b1,d1⟩:∃b,decide ((1:Int)<(W:Int))=b:=⟨_,rfl⟩
 cases b1
 all_goals
  have d0:decide ((0:Int)<(W:Int))=true:=by rw[A2];omega
  gi_wp2_with (first|(refine⟨trivial,?_⟩;gi_at_call 409;refine(callsIn_wide.2 (Oe _)).mono ?_;rintro e w1 ⟨m,n,b,rfl,hF,hl,hb⟩;obtain⟨⟨r0,r1,r2⟩,⟨z0,z1,z2⟩,hbw,hsz⟩:=Zf hB hb;have hB1:B<w1.heap.size:=by{omega};have hB2:B+1<w1.heap.size:=by{omega};obtain⟨fv,wd,hlook,-,hok⟩:=Tc hF k true (by simp only[true_iff];omega);obtain⟨g,cap,rfl,rfl,hch⟩:=hok rfl;rw[hk] at hlook))
  go_goals
  have hc1:=hst (w1.alloc (.cells #[.func (.func g) #[] cap,.int .i64 W] 595)) (HRD.out.below (by rw[hB];exact hbw.alloc Aa _))
  rw[hc1]
  simp only[Result.andThen]
  rw[Oper.uponIn_value]
  gi_wp2_with (first|(refine⟨trivial,?_⟩;gi_at_call 425;refine(callsIn_wide.2 (mD _ W Aa hW4 ⟨_,_,_,rfl⟩ _)).mono ?_;rintro e w2 ⟨rfl,rfl⟩))
  go_goals
  obtain⟨F0,hF0⟩:∃F0,w1.heap.size=F0:=⟨_,rfl⟩
  obtain⟨W0,hW0⟩:∃W0,(((((w1.alloc (.cells #[.func (.func g) #[] cap,.int .i64 W] 595)).alloc (.cells #[.int .i64 k,.string {data:=c.toArray}] 433)).alloc (.cells #[.pointer none,.slice none 0 0] 317)).alloc (.cells #[.slice a nc cp] 22)).alloc (.cells #[.int .i64 W] 3))=W0:=⟨_,rfl⟩
  have hsz0:W0.heap.size=F0+5:=by rw[←hW0,←hF0];simp
  have hC:iT w1 k g cap:=hch _ _ hF
  have hbB:Below (F0+2) ((w1.alloc (.cells #[.func (.func g) #[] cap,.int .i64 W] 595)).alloc (.cells #[.int .i64 k,.string {data:=c.toArray}] 433)) W0:=by
   rw[←hW0,←hF0];exact(((Bq _ _).alloc Ab _).alloc Ab _).alloc Ab _
  have hw1:Below F0 w1 W0:=by
   rw[←hF0] at hbB⊢;exact(((Bq _ _).alloc (At _) _).alloc Ab _).trans (hbB.mono Aa)
  have hbl:Lib.IsBuilder 317 5 (F0+2) (F0+2) [] W0:=by
   have h:=Lib.fresh_isBuilder 317 5 ((w1.alloc (.cells #[.func (.func g) #[] cap,.int .i64 W] 595)).alloc (.cells #[.int .i64 k,.string {data:=c.toArray}] 433))
   have e:((w1.alloc (.cells #[.func (.func g) #[] cap,.int .i64 W] 595)).alloc (.cells #[.int .i64 k,.string {data:=c.toArray}] 433)).heap.size=F0+2:=by rw[←hF0];simp
   rw[e] at h
   rw[←hW0]
   exact Le (Le h ((Bq _ _).alloc (At _) _)) ((Bq _ _).alloc (At _) _)
  have cs:W0.cell? ⟨F0+3,0,none⟩=some (.slice a nc cp):=by rw[←hW0,←hF0];simp[go_sem]
  have b3:W0.heap[F0+3]?=some (.cells #[.slice a nc cp] 22 (0,0)):=by
   rw[←hW0,←hF0]
   exact(Below.heap_alloc _ _ _ Ab).trans (by have h:=World.alloc_heap_new (((w1.alloc (.cells #[.func (.func g) #[] cap,.int .i64 W] 595)).alloc (.cells #[.int .i64 k,.string {data:=c.toArray}] 433)).alloc (.cells #[.pointer none,.slice none 0 0] 317)) (.cells #[.slice a nc cp] 22 (0,0));simpa using h)
  have b4:W0.heap[F0+4]?=some (.cells #[.int .i64 W] 3 (0,0)):=by
   rw[←hW0,←hF0]
   have h:=World.alloc_heap_new ((((w1.alloc (.cells #[.func (.func g) #[] cap,.int .i64 W] 595)).alloc (.cells #[.int .i64 k,.string {data:=c.toArray}] 433)).alloc (.cells #[.pointer none,.slice none 0 0] 317)).alloc (.cells #[.slice a nc cp] 22 (0,0))) (.cells #[.int .i64 W] 3 (0,0));simpa using h
  have cn:W0.cell? ⟨F0+4,0,none⟩=some (.int .i64 W):=by rw[←hW0,←hF0];simp[go_sem]
  have ct0:W0.cell? ⟨F0+1,0,none⟩=some (.int .i64 k):=by rw[←hW0,←hF0];simp[go_sem]
  have ct1:W0.cell? ⟨F0+1,1,none⟩=some (.string {data:=c.toArray}):=by rw[←hW0,←hF0];simp[go_sem]
  have cf0:W0.cell? ⟨F0,0,none⟩=some (.func (.func g) #[] cap):=by rw[←hW0,←hF0];simp[go_sem]
  have cf1:W0.cell? ⟨F0,1,none⟩=some (.int .i64 W):=by rw[←hW0,←hF0];simp[go_sem]
  have zt1:W0.frozen? ⟨F0+1,1,none⟩=false:=by rw[←hW0,←hF0];simp[go_sem]
  have keep:∀{p:Addr},p.block<F0→W0.cell? p=w1.cell? p∧W0.frozen? p=w1.frozen? p:=fun hp=>⟨hw1.cell hp,hw1.frozen hp⟩
  have g0:=(keep (p:=⟨B,0,none⟩) Af).1.trans r0
  have g1:=(keep (p:=⟨B,1,none⟩) Af).1.trans r1
  have g2:=(keep (p:=⟨B+1,0,none⟩) Af).1.trans r2
  have y0:=(keep (p:=⟨B,0,none⟩) Af).2.trans z0
  have y1:=(keep (p:=⟨B,1,none⟩) Af).2.trans z1
  have y2:=(keep (p:=⟨B+1,0,none⟩) Af).2.trans z2
  have hbW:Below B w W0:=hbw.trans (hw1.mono Aa)
  rw[hW0]
  simp only[hF0]
  clear hW0 keep r0 r1 r2 z0 z1 z2 hlook hok hch hb hl hc1 hst
  obtain⟨m,hmW⟩:∃m,m*W=nc:=⟨nc/W,Nat.div_mul_cancel (Nat.dvd_of_mod_eq_zero hm)⟩
  have cs':W0.cell? ⟨F0+3,0,none⟩=some (.slice a (m*W) cp):=by rw[hmW];exact cs
  have hmle:m≤1000000:=by
   have:m*1≤m*W:=D2 m Aa
   omega
  obtain⟨b0,o0,ha⟩:∃b o,0<m→a=some ⟨b,o,none⟩:=by
   rcases Nat.eq_zero_or_pos m with h|h
   ·exact⟨0,0,fun h'=>by omega⟩
   ·have hlt:0<(Lib.byteCells c).length:=by
     rw[Ue,HN.out,←hmW]
     exact Nat.mul_pos h Aa
    obtain⟨b,o,e,_⟩:=HQ.out 0 _ (Ev hlt)
    exact⟨b,o,fun _=>e⟩
  apply wpIn_rangeFunc_ownF (F:=Fence.wide) (n:=3) rfl Aa (gf:=432) (lb:=#[.pointer (some ⟨F0+3,0,none⟩),.pointer (some ⟨F0+4,0,none⟩)]) rfl trivial (enters_of Tryz.func432 Ac rfl)
   (mC Fence.wide (3-1) trivial rfl Aa (F0+3) (F0+4) b0 o0 cp m W a ha Aa hW4 hmle (by rw[hmW];exact hq1) hq2 W0 cs' cn) (fun h k=>KeepTwo.trans h k) (fun W' l o o' hl h1 h2 h3=>⟨World.putObj_heap_other Aa,World.putObj_heap_other Aa⟩) (Bq _ _) (fun _=>rfl)
   (fun pre W'=>(Lib.IsBuilder 317 5 (F0+2) (F0+2) (Lib.byteCells (pre.flatMap fun q=>enc (Kx c (q.1*W) W))) W'∧∀q∈pre,Hz k (Kx c (q.1*W) W)=true)∧Below (F0+2) W0 W'∧(W'.heap[F0+3]?=some (.cells #[.slice a nc cp] 22 (0,0))∧W'.heap[F0+4]?=some (.cells #[.int .i64 W] 3 (0,0))))
   (fun cd pre W'=>(cd= .ret∧(∃q:Fin m,Hz k (Kx c (q.1*W) W)=false)∧W'.cell? ⟨B,0,none⟩=some (.int .i64 0)∧W'.cell? ⟨B,1,none⟩=some (.string {data:=#[]})∧W'.cell? ⟨B+1,0,none⟩=some (.int .i64 6))∧Below B W0 W')
   (OwnFrom.and (OwnFrom.and (Own.from (Ug _ _ _ _ _) _) (ownFrom_pure _ _)) (OwnFrom.and (ownFrom_below Aa Aa) (Own.from (fun s X Y row hs hg hr=>⟨fI hs.1 hg hr,fI hs.2 hg hr⟩) _)))
   (fun cd=>OwnFrom.and (fun s X Y row hs hg hr=>⟨hs.1,hs.2.1,cell_kept hs.2.2.1 hg (fun r e=>(hr r e).2),cell_kept hs.2.2.2.1 hg (fun r e=>(hr r e).2),cell_kept hs.2.2.2.2 hg (fun r e=>(hr r e).2)⟩) (ownFrom_below Aa Aa))
   ⟨⟨hbl,fun q hq=>by cases hq⟩,Bq _ _,b3,b4⟩
  case hassign=>
   intro l x W' K hK
   gi_wp2
   exact hK
  case hbody=>
   rintro l pre ⟨q,hq⟩ W' ⟨⟨hI,hall⟩,hB',e3,e4⟩ hlen
   have hqW:q*W+W≤nc:=by
    have h1:(q+1)*W≤m*W:=Ce W hq
    rw[C7,Dp] at h1;omega
   have hcell:∀i,i<nc→W'.cell? ⟨b0,o0+i,none⟩=some (.int .u8 ((c.getD i 0).toNat:Nat)):=fun i hi=>by
    have hl:i<c.length:=by rw[HN.out];exact hi
    obtain⟨b,o,e,_,h⟩:=HQ.out i (.int .u8 ((c.getD i 0).toNat:Nat)) (by simp[Lib.byteCells,Ev hl,Bo])
    rw[ha Aa] at e
    cases e
    exact((hbW.trans (hB'.mono Aa)).cell (by rw[←hB];exact G4 h)).trans h
   simp only[xF]
   obtain⟨u,hu⟩:∃u,o0+q*W=u:=⟨_,rfl⟩
   have hcell':∀j,j<W→W'.cell? ⟨b0,u+j,none⟩=some (.int .u8 ((c.getD (q*W+j) 0).toNat:Nat)):=fun j hj=>by
    grind
   rw[hu]
   gi_wp2
   gi_loopw [51,11] (fun i y wr=>∃(j v:Nat),i= .int .i64 j∧y= .int .u32 v∧j≤W∧v=Kx c (q*W) j∧wr.heap=W'.heap∧Below W'.heap.size W' wr) (fun i _ _=>W-(intOf i).toNat)
   case atStart=>exact⟨0,0,rfl,rfl,Nat.zero_le _,rfl,rfl,Bq _ _⟩
   case round=>
    obtain⟨j,v,rfl,rfl,hj,hv,hwr,hbr⟩:=hrel
    by_cases hlt:j<W
    ·have dj:decide ((j:Int)<(W:Int))=true:=by rw[A2];omega
     have hc:=(World.cell?_of_block (a:=⟨b0,u+j,none⟩) (by rw[hwr])).trans (hcell' j hlt)
     have hvlt:Kx c (q*W) j<16777216:=by
      have h1:=Vo c (q*W) j
      have h2:256^j≤256^3:=Nat.pow_le_pow_right Aa Aa
      have h3:(256:Nat)^3=16777216:=rfl
      omega
     gi_wp2
     go_roundw
     case rel=>
      refine⟨j+1,_,by go_num,?_,Aa,rfl,hwr,hbr⟩
      rw[JG _ _ hvlt (UInt8.toNat_lt _)]
      simp[Kx]
     case measure=>simp[intOf];omega
    ·have dj:decide ((j:Int)<(W:Int))=false:=by rw[Ar];omega
     obtain rfl:j=W:=Aa
     have blk:∀k o,k<F0+2→W0.cell? ⟨k,o,none⟩=wr.cell? ⟨k,o,none⟩∧W0.frozen? ⟨k,o,none⟩=wr.frozen? ⟨k,o,none⟩:=fun k o hk=>by
      have h:wr.heap[k]?=W0.heap[k]?:=by rw[hwr];exact hB'.block k hk
      grind [World.cell?_of_block,World.frozen?_of_block]
     have hf0:=(blk F0 0 Aa).1.symm.trans cf0
     have k0:=(blk B 0 Aa).1.symm.trans g0
     have k1:=(blk B 1 Aa).1.symm.trans g1
     have k2:=(blk (B+1) 0 Aa).1.symm.trans g2
     have u0:=(blk B 0 Aa).2.symm.trans y0
     have u1:=(blk B 1 Aa).2.symm.trans y1
     have u2:=(blk (B+1) 0 Aa).2.symm.trans y2
     have hIr:=Le hI hbr
     have hsW:F0+5≤W'.heap.size:=by have e1:=hB'.size;omega
     have hsr:F0+5≤wr.heap.size:=by have e2:=hbr.size;omega
     have hBr:Below B W0 wr:=(hB'.mono Aa).trans (hbr.mono Aa)
     obtain⟨v,hv'⟩:∃v,Kx c (q*j) j=v:=⟨_,rfl⟩
     rw[hv'] at hv
     subst hv
     have HV:=Zh hv'
     by_cases hbig:1114111<v
     ·have db:decide ((1114111:Int)<(v:Int))=true:=by rw[A2];omega
      gi_wp2
      refine⟨fun _ h=>(by cases h),?_⟩
      gi_wp2
      refine⟨(KeepsOthers.of_heap hwr).trans (((KeepsOthers.setCell _ _ _).trans (KeepsOthers.setCell _ _ _)).trans (KeepsOthers.setCell _ _ _)),⟨rfl,⟨⟨q,hq⟩,?_⟩,?_,?_,?_⟩,?_⟩
      ·rw[HV.out];exact TW hbig
      ·simp[go_sem,k0]
      ·simp[go_sem,k1]
      ·simp[go_sem,k2]
      ·exact(((hBr.setCell (p:=⟨B,0,none⟩) (At _) _).setCell (p:=⟨B,1,none⟩) (At _) _).setCell (p:=⟨B+1,0,none⟩) (Nat.le_succ _) _)
     ·have db:decide ((1114111:Int)<(v:Int))=false:=by rw[Ar];omega
      have he:=hC.1
      gi_wp2
      refine⟨trivial,(CallsIn.inRound l (callsIn_wide.2 (hC.2 v wr Aa (by rw[hF0];exact hw1.trans ((hB'.mono Aa).trans (hbr.mono Aa)))))).mono ?_⟩
      rintro e w6 ⟨rfl,hb6⟩
      have hI6:=Le hIr hb6
      have hbr6:=hbr.trans (hb6.mono hbr.size)
      have hs6:F0+5≤w6.heap.size:=by have e2:=hb6.size;omega
      have hB6:Below (F0+2) W0 w6:=hB'.trans (hbr6.mono Aa)
      have f3:=(hbr6.block (F0+3) Aa).trans e3
      have f4:=(hbr6.block (F0+4) Aa).trans e4
      have k06:=(hb6.cell (p:=⟨B,0,none⟩) Af).trans k0
      have k16:=(hb6.cell (p:=⟨B,1,none⟩) Af).trans k1
      have k26:=(hb6.cell (p:=⟨B+1,0,none⟩) Af).trans k2
      have u06:=(hb6.frozen (p:=⟨B,0,none⟩) Af).trans u0
      have u16:=(hb6.frozen (p:=⟨B,1,none⟩) Af).trans u1
      have u26:=(hb6.frozen (p:=⟨B+1,0,none⟩) Af).trans u2
      rcases Bool.eq_false_or_eq_true (Hz k v) with hv|hv
      ·rw[hv]
       have HVX:=Zh hv;clear hv
       have hlen4:(pre.flatMap fun q=>enc (Kx c (q.1*j) j)).length≤100000000:=Bi (Xh _ _) Aa
       gi_wp2_with (refine⟨trivial,?_⟩;gi_at_call 426;refine(CallsIn.inRound l (callsIn_wide.2 (eH (F0+2) (F0+2) _ v (Qd HVX.out) _ hI6 hlen4 Aa))).mono ?_;rintro e w7 ⟨⟨nn,rfl⟩,hI7,hb7,hk7,ho7⟩)
       refine⟨((KeepsOthers.of_heap hwr).trans (Ng hb6)).trans hk7,⟨?_,?_⟩,⟨?_,?_⟩,hB6.trans hb7,?_,?_⟩
       ·rw[e3];exact ho7 _ _ f3 Ab (fun c fz e=>by cases e)
       ·rw[e4];exact ho7 _ _ f4 Ab (fun c fz e=>by cases e)
       ·grind
       ·intro y hy
        rcases Cm.1 hy with h|h
        ·exact hall y h
        ·rw[Bh.1 h,HV.out];exact HVX.out
       ·exact ho7 _ _ f3 Ab (fun c fz e=>by cases e)
       ·exact ho7 _ _ f4 Ab (fun c fz e=>by cases e)
      ·rw[hv]
       have HVX:=Zh hv;clear hv
       gi_wp2
       refine⟨((KeepsOthers.of_heap hwr).trans (Ng hb6)).trans (((KeepsOthers.setCell _ _ _).trans (KeepsOthers.setCell _ _ _)).trans (KeepsOthers.setCell _ _ _)),⟨rfl,⟨⟨q,hq⟩,?_⟩,?_,?_,?_⟩,?_⟩
       ·rw[HV.out];exact HVX.out
       ·simp[go_sem,k06]
       ·simp[go_sem,k16]
       ·simp[go_sem,k26]
       ·exact((((hB6.mono (show B≤F0+2 by omega)).setCell (p:=⟨B,0,none⟩) (At _) _).setCell (p:=⟨B,1,none⟩) (At _) _).setCell (p:=⟨B+1,0,none⟩) (Nat.le_succ _) _)
  case hdone=>
   rintro D xs W' hD hxs ⟨⟨hI,hall⟩,hB',e3,e4⟩ hK
   have hcl:=HN.out
   have hdiv:c.length/W=m:=by rw[hcl,←hmW];exact Nat.mul_div_cancel _ Aa
   have hallN:∀x∈T4 W c (c.length/W),Hz k x=true:=by
    intro x hx
    rw[hdiv] at hx
    obtain⟨q,hq,rfl⟩:=Cl.1 hx
    rw[←hxs] at hq
    obtain⟨y,hy,rfl⟩:=Cl.1 hq
    exact hall y hy
   obtain⟨o1,o2,-⟩:=xD hk Aa (by rw[hcl];exact hm) hallN
   have hbs:xs.flatMap (fun q=>enc (Kx c (q.1*W) W))=Ok k c:=by
    rw[o2,hdiv]
    unfold T4
    rw[←hxs,Dg,List.flatMap_map]
    rfl
   rw[hbs] at hI
   have hv:Ey k (Ok k c)=true:=by
    unfold okD at o1
    simp only[Et] at o1
    exact o1.1
   have hsize:(Ok k c).length≤16777216:=by
    rw[←hbs]
    have h1:=Xh (fun q:Fin m=>Kx c (q.1*W) W) xs
    have h2:xs.length=m:=by have:=Cf List.length hxs;simpa using this
    omega
   have hsW:F0+5≤W'.heap.size:=by have e1:=hB'.size;omega
   have DEC:Rx k c=k∧Ke k c=Ok k c∧Lz k c=0:=by
    unfold Rx Ke Lz
    have e:¬E6 k<0:=by rw[hk];omega
    simp[e,o1]
   have HD:=Zh DEC;clear DEC
   obtain⟨L,hL⟩:∃L,Ok k c=L:=⟨_,rfl⟩
   rw[hL] at hI hv hsize HD
   clear hbs o1 o2 hallN
   have t0:=(hB'.cell (p:=⟨F0+1,0,none⟩) Ab).trans ct0
   have t1:=(hB'.cell (p:=⟨F0+1,1,none⟩) Ab).trans ct1
   have zt:=(hB'.frozen (p:=⟨F0+1,1,none⟩) Ab).trans zt1
   have HT:=Zh hT;clear hT
   gi_wp2_with (first
    |(refine⟨trivial,?_⟩;gi_at_call 184;refine(callsIn_wide.2 (Tryz.Builder_String_any_k (F0+2) (F0+2) L _ (Lib.IsBuilderF.of hI) Aa)).mono ?_;rintro e w7 ⟨rfl,-,hb7,ho7⟩;have hK7:=ho7 D _ hK (fun e=>by cases e;omega) (fun c fz e=>by cases e);have hs7:=hb7.size;have hB7:=hB'.trans hb7;have t07:=(hb7.cell (p:=⟨F0+1,0,none⟩) Ab).trans t0;have t17:=(hb7.cell (p:=⟨F0+1,1,none⟩) Ab).trans t1;have z17:=(hb7.frozen (p:=⟨F0+1,1,none⟩) Ab).trans zt))
   have hlt7:F0+1<w7.heap.size:=Aa
   have hs8:(w7.setCell ⟨F0+1,1,none⟩ (.string {data:=L.toArray})).heap.size=w7.heap.size:=Ab
   have hB8:Below B W0 (w7.setCell ⟨F0+1,1,none⟩ (.string {data:=L.toArray})):=(hB7.mono Aa).setCell (p:=⟨F0+1,1,none⟩) Af _
   have hB9:Below (F0+1) W0 (w7.setCell ⟨F0+1,1,none⟩ (.string {data:=L.toArray})):=(hB7.mono Aa).setCell (p:=⟨F0+1,1,none⟩) Ab _
   have p0:(w7.setCell ⟨F0+1,1,none⟩ (.string {data:=L.toArray})).cell? ⟨F0+1,0,none⟩=some (.int .i64 k):=by simp[go_sem,t07]
   have p1:(w7.setCell ⟨F0+1,1,none⟩ (.string {data:=L.toArray})).cell? ⟨F0+1,1,none⟩=some (.string {data:=L.toArray}):=by simp[go_sem,t17]
   obtain⟨w8,hw8⟩:∃w8,w7.setCell ⟨F0+1,1,none⟩ (.string {data:=L.toArray})=w8:=⟨_,rfl⟩
   rw[hw8] at hs8 hB8 hB9 p0 p1
   have hK8:w8.heap[D]?=some (.deferred (some [])):=by
    rw[←hw8,Below.heap_setCell _ _ _ _ Af];exact hK7
   have hbw8:Below w.heap.size w w8:=by rw[hB];exact hbW.trans hB8
   rw[hw8]
   clear hw8
   refine⟨trivial,(callsIn_wide.2 (Td k ⟨L.toArray⟩ (by simpa[ByteArray.size] using hsize) w8 (Utf8Tabs_below HT.out hbw8))).mono ?_⟩
   rintro e w9 ⟨rfl,hb9⟩
   have hs9:=hb9.size
   have q0:=(hb9.cell (p:=⟨F0+1,0,none⟩) Af).trans p0
   have q1:=(hb9.cell (p:=⟨F0+1,1,none⟩) Af).trans p1
   have a0:=(hb9.cell (p:=⟨B,0,none⟩) Af).trans ((hB9.cell (p:=⟨B,0,none⟩) Af).trans g0)
   have a1:=(hb9.cell (p:=⟨B,1,none⟩) Af).trans ((hB9.cell (p:=⟨B,1,none⟩) Af).trans g1)
   have a2:=(hb9.cell (p:=⟨B+1,0,none⟩) Af).trans ((hB9.cell (p:=⟨B+1,0,none⟩) Af).trans g2)
   have z0:=(hb9.frozen (p:=⟨B,0,none⟩) Af).trans ((hB9.frozen (p:=⟨B,0,none⟩) Af).trans y0)
   have z1:=(hb9.frozen (p:=⟨B,1,none⟩) Af).trans ((hB9.frozen (p:=⟨B,1,none⟩) Af).trans y1)
   have z2:=(hb9.frozen (p:=⟨B+1,0,none⟩) Af).trans ((hB9.frozen (p:=⟨B+1,0,none⟩) Af).trans y2)
   have hK9:=(hb9.block D (Br.1 hK8).1).trans hK8
   have hv9:Ey k (ByteArray.mk L.toArray).data.toList=true:=by simpa using hv
   rw[hv9]
   clear hv9 hK8 p0 p1 t07 t17 z17 t0 t1 zt
   gi_wp2
   obtain⟨Wf,hWf⟩:∃Wf,((w9.setCell ⟨B,0,none⟩ (.int .i64 k)).setCell ⟨B,1,none⟩ (.string {data:=L.toArray})).setCell ⟨B+1,0,none⟩ (.int .i64 0)=Wf:=⟨_,rfl⟩
   have s0:Wf.cell? ⟨B,0,none⟩=some (.int .i64 k):=by rw[←hWf];simp[go_sem,a0]
   have s1:Wf.cell? ⟨B,1,none⟩=some (.string {data:=L.toArray}):=by rw[←hWf];simp[go_sem,a1]
   have s2:Wf.cell? ⟨B+1,0,none⟩=some (.int .i64 0):=by rw[←hWf];simp[go_sem,a2]
   have hKf:Wf.heap[D]?=some (.deferred (some [])):=by
    rw[←hWf,Below.heap_setCell _ _ _ _ Af,Below.heap_setCell _ _ _ _ Af,Below.heap_setCell _ _ _ _ Af];exact hK9
   have hBf:Below B w Wf:=by
    rw[←hWf]
    exact((((hbW.trans hB8).trans (hb9.mono Aa)).setCell (p:=⟨B,0,none⟩) (At _) _).setCell (p:=⟨B,1,none⟩) (At _) _).setCell (p:=⟨B+1,0,none⟩) (Nat.le_succ _) _
   rw[hWf]
   clear hWf
   have hkr:∀r,some D=some r→∃o:Obj,Wf.heap[r]?=some o∧o.isCells=false:=fun r e=>by cases e;exact⟨_,hKf,rfl⟩
   refine Uf (D:=D) (v1:= .agg #[.int .i64 k,.string ⟨L.toArray⟩]) (v2:= .int .i64 0) Tryz.results412 hKf ⟨_,rfl,J0 _ _ _ 0 [.int .i64 k,.string ⟨L.toArray⟩] _ Tryz.underlying433 rfl Ac (Xd (cell_kept s0 (grownBy_putObj' Wf D _) hkr) (cell_kept s1 (grownBy_putObj' Wf D _) hkr))⟩ ⟨_,rfl,?_⟩ rfl ⟨by rw[HD.out.1,HD.out.2.1,HD.out.2.2],?_⟩
   ·have h:=cell_kept s2 (grownBy_putObj' Wf D (.deferred none)) hkr
    simp[go_sem,h]
   ·exact HB.out▸(hBf.grown (grownBy_putObj' Wf D _) (Bi Aa hBf.size) (fun j e=>by cases e;omega))
  case hstop=>
   rintro D cd pre W' hD-⟨⟨rfl,⟨q,hx⟩,s0,s1,s2⟩,hB'⟩ hK
   have hcl:=HN.out
   have hdiv:c.length/W=m:=by rw[hcl,←hmW];exact Nat.mul_div_cancel _ Aa
   have hok:okD k c=false:=by
    cases ho:okD k c with
    |false=>rfl
    |true=>
     have h:=(mA hk Aa ho).2 (Kx c (q.1*W) W) (by rw[hdiv];exact Cl.2 ⟨q.1,List.mem_range.2 q.2,rfl⟩)
     rw[hx] at h;cases h
   have hneg:¬E6 k<0:=by rw[hk];omega
   gi_wp2
   have hkr:∀r,some D=some r→∃o:Obj,W'.heap[r]?=some o∧o.isCells=false:=fun r e=>by cases e;exact⟨_,hK,rfl⟩
   refine Uf (D:=D) (v1:= .agg #[.int .i64 0,.string {data:=#[]}]) (v2:= .int .i64 6) Tryz.results412 hK ⟨_,rfl,J0 _ _ _ 0 [.int .i64 0,.string {data:=#[]}] _ Tryz.underlying433 rfl Ac (Xd (cell_kept s0 (grownBy_putObj' W' D _) hkr) (cell_kept s1 (grownBy_putObj' W' D _) hkr))⟩ ⟨_,rfl,?_⟩ rfl ⟨by unfold Rx Ke Lz;simp[hneg,hok],?_⟩
   ·have h:=cell_kept s2 (grownBy_putObj' W' D (.deferred none)) hkr
    simp[go_sem,h]
   exact HB.out▸((hbW.trans hB').grown (grownBy_putObj' W' D _) (Bi Aa hB'.size) (fun j e=>by cases e;omega))
theorem UA (k:Int) (S:Nat→Prop) (v:Value) (c:List UInt8) (w:World) (a:Je S w v c) (h:c.length≤1000000) (i:Lib.Utf8Tabs 6 7 w):
 Calls Tryz.prog 412 #[.int .i64 k,v] w (Vp k c w):=by
 by_cases d:E6 k<0
 ·exact TX k S v c w d
 obtain⟨W,e⟩:∃W:Nat,E6 k=(W:Int):=⟨(E6 k).toNat,Aa⟩
 have f:W≤4:=by
  rcases Nf k d with rfl|rfl|rfl|rfl|rfl|rfl|rfl<;>(revert e;unfold E6;simp;omega)
 by_cases j:W=0
 ·grind [JH]
 by_cases g:c.length%W=0
 ·grind [TZ]
 ·exact TY k S v c w a W e (by grind) g
end Go.Proofs.YtbedjionhmaafaaGreatDoor
