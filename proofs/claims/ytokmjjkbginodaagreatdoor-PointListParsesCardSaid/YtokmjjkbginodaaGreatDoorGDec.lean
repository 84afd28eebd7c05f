/- GDec: the texts Dec, one behind the other. No condition but what each lemma says. -/
import Derived.Test.YtokmjjkbginodaaGreatDoorGChunk2
import Derived.Test.YtokmjjkbginodaaGreatDoorGChunk3
import Derived.Test.YtokmjjkbginodaaGreatDoorGBuild
import Derived.Test.YtokmjjkbginodaaGreatDoorGDecPlain
import Derived.Test.YtokmjjkbginodaaGreatDoorGEncode
import Derived.Test.YtokmjjkbginodaaGreatDoorGStep
namespace Go.Proofs.YtokmjjkbginodaaGreatDoor
open Go.RowKit Go.Shelf
attribute [local go_sem] Oper.semAt_some
theorem Ed {w w':World} (h:Below w.heap.size w w'):KeepsOthers w w':=
 ⟨h.size,fun k _ hk _=>(h.block k (Array.getElem?_eq_some_iff.1 hk).1).trans hk⟩
theorem P4 {F:Fence} {n:Nat} {P:Program} {fn:Func} {R:Ending→World→Prop} {a:Act} {w:World} {r1 r2:ResultVar} {v1 v2:Value} (hf:fn.results=#[r1,r2]) (h1:F4 P w a.tmps r1 v1) (h2:F4 P w a.tmps r2 v2) (hd:a.defers=[]) (hR:R (.returned (.tuple #[v1,v2])) w):bodyPostM F n P fn R .ret a w:=by
 unfold bodyPostM
 simp only[]
 rw[hd]
 exact⟨_,Mb hf h1 h2,hR⟩
theorem H1 {F:Fence} {n:Nat} {P:Program} {fn:Func} {R:Ending→World→Prop} {a:Act} {w:World} {r1 r2:ResultVar} {v1 v2:Value} {D:Nat} (hf:fn.results=#[r1,r2]) (hK:w.heap[D]?=some (.deferred (some [])))
 (h1:F4 P (w.putObj D (.deferred none)) a.tmps r1 v1) (h2:F4 P (w.putObj D (.deferred none)) a.tmps r2 v2) (hd:a.defers=[{target:= .collected D,args:=#[]}]) (hR:R (.returned (.tuple #[v1,v2])) (w.putObj D (.deferred none))):bodyPostM F n P fn R .ret a w:=by
 unfold bodyPostM
 simp only[]
 rw[hd]
 exact⟨by simp,.inl ⟨_,_,rfl,run_takeDeferred hK,_,Mb hf h1 h2,hR⟩⟩
theorem P5 {w w1:World} {B:Nat} (hB:w.heap.size=B) (hb:Below ((w.alloc (.cells #[.int .i64 0,.string {data:=#[]}] 53)).alloc (.cells #[.int .i64 0] 29)).heap.size ((w.alloc (.cells #[.int .i64 0,.string {data:=#[]}] 53)).alloc (.cells #[.int .i64 0] 29)) w1):
 (w1.cell? ⟨B,0,none⟩=some (.int .i64 0)∧w1.cell? ⟨B,1,none⟩=some (.string {data:=#[]})∧w1.cell? ⟨B+1,0,none⟩=some (.int .i64 0))∧
   (w1.frozen? ⟨B,0,none⟩=false∧w1.frozen? ⟨B,1,none⟩=false∧w1.frozen? ⟨B+1,0,none⟩=false)∧Below B w w1∧B+2≤w1.heap.size:=by
 subst hB
 have hz:=hb.size
 simp only[World.size_alloc] at hz
 refine⟨⟨?_,?_,?_⟩,⟨?_,?_,?_⟩,?_,by omega⟩
 ·exact(hb.cell (p:=⟨w.heap.size,0,none⟩) (by simp;omega)).trans (by simp[go_sem])
 ·exact(hb.cell (p:=⟨w.heap.size,1,none⟩) (by simp;omega)).trans (by simp[go_sem])
 ·exact(hb.cell (p:=⟨w.heap.size+1,0,none⟩) (by simp)).trans (by simp[go_sem])
 ·exact(hb.frozen (p:=⟨w.heap.size,0,none⟩) (by simp;omega)).trans (by simp[go_sem])
 ·exact(hb.frozen (p:=⟨w.heap.size,1,none⟩) (by simp;omega)).trans (by simp[go_sem])
 ·exact(hb.frozen (p:=⟨w.heap.size+1,0,none⟩) (by simp)).trans (by simp[go_sem])
 ·exact(((Below.refl _ _).alloc (Nat.le_refl _) _).alloc (by simp) _).trans (hb.mono (by simp;omega))
theorem L3 {T e:TypeId} {B b:Nat} {p:Value} {bs:List Value} {w w':World} {row:Option Nat} (h:Lib.BuilderAt T e B b p bs w) (hg:w.grownBy w' row) (hr:∀r,row=some r→∃o:Obj,w.heap[r]?=some o∧o.isCells=false):Lib.BuilderAt T e B b p bs w':=by
 obtain⟨hB,v,hb,hown,hne⟩:=h
 refine⟨hB,v,?_,hown.kept hg ?_,hne⟩
 ·rw[hg.block b (Array.getElem?_eq_some_iff.1 hb).1 (fun e=>by obtain⟨o,h1,h2⟩:=hr b e.symm;rw[hb] at h1;cases h1;cases h2)];exact hb
 ·cases hv:v.ownBlock with
  |none=>exact .inl rfl
  |some g=>
   refine .inr fun e=> ?_
   obtain⟨o,h1,h2⟩:=hr g e.symm
   rcases hown.2 with hn|⟨g',cap,cur,rfl,hb',hgg,_⟩
   ·rw[hn.1] at hv;cases hv
   ·have:g'=g:=by simpa[Value.ownBlock] using hv
    subst this
    rw[hgg] at h1;cases h1;cases h2
theorem J6 {β:Type} (T e:TypeId) (B b:Nat) (f:β→List Value):Own (fun s W=>Lib.IsBuilder T e B b (f s) W):=fun _ _ _ _ hs hg hr=>
 hs.elim (fun h=> .inl (L3 h hg hr)) (fun h=> .inr (L3 h hg hr))
theorem cV (v b:Nat) (hv:v<16777216) (hb:b<256):bits .or .u32 ((v:Int)*256) ((b:Int)%4294967296)=((v*256+b:Nat):Int):=by
 have e1:(v:Int)*256=((2^8*v:Nat):Int):=by omega
 have e2:(b:Int)%4294967296=(b:Int):=by omega
 rw[e1,e2,u32_or_nat _ _ (by omega) (by omega),←Nat.two_pow_add_eq_or_of_lt (by omega) v]
 congr 1;omega
theorem Kr {α:Type} (f:α→Nat):∀l:List α,(l.flatMap fun q=>enc (f q)).length≤4*l.length
 |[]=>by simp
 |x::l=>by
  have:=Kr f l
  have:=(Gf (f x)).2
  rw[List.flatMap_cons,Ap,Ag];omega
theorem No {W W':World} {row:Option Nat} {b:Nat} {cs:Array Value} {T:TypeId} {f:Nat×Nat} (h:W.heap[b]?=some (.cells cs T f)) (hg:W.grownBy W' row) (hr:∀r,row=some r→∃o:Obj,W.heap[r]?=some o∧o.isCells=false):W'.heap[b]?=some (.cells cs T f):=by
 rw[hg.block b (Array.getElem?_eq_some_iff.1 h).1 (fun e=>by obtain⟨o,h1,h2⟩:=hr b e.symm;rw[h] at h1;cases h1;cases h2)];exact h
theorem KeepsOthers.of_heap {W W':World} (h:W'.heap=W.heap):KeepsOthers W W':=⟨by rw[h];exact Nat.le_refl _,fun k o hk _=>by rw[h];exact hk⟩
theorem nI {k:Int} {v:Nat} (h:1114111<v):B5 k v=false:=by
 cases hv:B5 k v with
 |false=>rfl
 |true=>have:=Ir hv;rw[C3] at this;omega
theorem C7 {T e:TypeId} {B b:Nat} {bs:List Value} {w w':World} (h:Lib.IsBuilder T e B b bs w) (hb:Below w.heap.size w w'):Lib.IsBuilder T e B b bs w':=
 J6 T e B b (fun _:Unit=>bs) () _ _ none h ⟨hb.os,hb.tape,hb.output,hb.size,fun k hk _=>hb.block k hk⟩ (fun r e=>by cases e)
set_option maxRecDepth 100000 in
set_option maxHeartbeats 4000000 in
theorem EF (k:Int) (_:Nat→Prop) (v:Value) (c:List UInt8) (w:World) (hk:Ar k<0):
 Calls Tryz.prog 196 #[.int .i64 k,v] w (Nm k c w):=by
 refine(callsIn_wide (n:=3)).1 ?_
 refine callsIn_of_wp_marks Tryz.func196 rfl trivial ?_ rfl
 simp only[Tryz.ntmps196,List.size_toArray,Ag,List.length_nil,Nat.reduceAdd,Nat.reduceSub,Array.replicate_succ,Array.replicate_zero,List.push_toArray,List.append_toArray,List.nil_append,List.cons_append]
 obtain⟨B,hB⟩:∃B,w.heap.size=B:=⟨_,rfl⟩
 have HB:=Zh hB
 gi_wp2_with (first|(refine⟨trivial,?_⟩;gi_at_call 149;refine(callsIn_wide.2 (Hl _)).mono ?_;rintro e w1 ⟨m,n,b,rfl,hF,hl,hb⟩;obtain⟨⟨r0,r1,r2⟩,⟨z0,z1,z2⟩,hbw,hsz⟩:=P5 hB hb;have hB1:B<w1.heap.size:=by{omega};have hB2:B+1<w1.heap.size:=by{omega};have hlook:=hF.1.miss Tryz.underlying223 Tryz.underlying3 cT (Ud (n:=n) (b:=b) hk)))
 have hz0:((((w1.setCell ⟨B,0,none⟩ (.int .i64 0)).setCell ⟨B,1,none⟩ (.string {data:=#[]})).setCell ⟨B+1,0,none⟩ (.int .i64 3)).alloc (.cells #[.nilFunc,.int .i64 0] 222)).cell? ⟨B+1,0,none⟩=some (.int .i64 3):=by simp[go_sem,hB2,r2]
 refine P4 (v1:= .agg #[.int .i64 0,.string {data:=#[]}]) (v2:= .int .i64 3) Tryz.results196 ⟨_,rfl,Dw _ _ _ 0 [.int .i64 0,.string {data:=#[]}] _ Tryz.underlying53 rfl (by kernel_rfl) (Mc ?_ ?_)⟩ ⟨_,rfl,?_⟩ rfl ⟨by unfold Fl Cu D7;simp[hk],?_⟩
 ·simp[go_sem,hB1,r0]
 ·simp[go_sem,hB1,r1]
 ·simp[go_sem,hB2,r2]
 ·exact(by(repeat (first|exact HB.out▸hbw|refine Below.setCell ?_ ?_ _|refine Below.alloc ?_ ?_ _|refine Below.drew ?_))<;>first|omega|(simp;done)|(simp;omega))
set_option maxRecDepth 100000 in
set_option maxHeartbeats 4000000 in
theorem EG (k:Int) (S:Nat→Prop) (v:Value) (c:List UInt8) (w:World) (hrd:Dg S w v c) (W:Nat) (hk:Ar k=(W:Int)) (h1:1<W) (hm:c.length%W≠0):
 Calls Tryz.prog 196 #[.int .i64 k,v] w (Nm k c w):=by
 refine(callsIn_wide (n:=3)).1 ?_
 refine callsIn_of_wp_marks Tryz.func196 rfl trivial ?_ rfl
 simp only[Tryz.ntmps196,List.size_toArray,Ag,List.length_nil,Nat.reduceAdd,Nat.reduceSub,Array.replicate_succ,Array.replicate_zero,List.push_toArray,List.append_toArray,List.nil_append,List.cons_append]
 obtain⟨B,hB⟩:∃B,w.heap.size=B:=⟨_,rfl⟩
 have HB:=Zh hB
 obtain⟨a,cp,rfl,hq1,hq2,hq3,hq4⟩:=hrd
 have hok:okD k c=false:=by
  cases ho:okD k c with
  |false=>rfl
  |true=>exact absurd (Uk hk (by omega) ho).1 hm
 have hneg:¬Ar k<0:=by rw[hk];omega
 have HOK:=Zh hok;clear hok
 obtain⟨nc,hn⟩:∃n,c.length=n:=⟨_,rfl⟩
 rw[hn] at hm⊢
 clear hq1 hq2 hq3 hq4 hn
 have q1:(nc:Int).tmod W≠0:=by rw[←Int.ofNat_tmod];exact_mod_cast hm
 have q2:((nc:Int).tmod W==0)=false:=by simpa using q1
 have d1:decide ((1:Int)<(W:Int))=true:=by rw[decide_eq_true_iff];omega
 gi_wp2_with (first|(refine⟨trivial,?_⟩;gi_at_call 149;refine(callsIn_wide.2 (Hl _)).mono ?_;rintro e w1 ⟨m,n,b,rfl,hF,hl,hb⟩;obtain⟨⟨r0,r1,r2⟩,⟨z0,z1,z2⟩,hbw,hsz⟩:=P5 hB hb;have hB1:B<w1.heap.size:=by{omega};have hB2:B+1<w1.heap.size:=by{omega};obtain⟨fv,wd,hlook,-,hok⟩:=Kp hF k true (by simp only[true_iff];omega);obtain⟨g,cap,rfl,rfl,hch⟩:=hok rfl;rw[hk] at hlook))
 refine P4 (v1:= .agg #[.int .i64 0,.string {data:=#[]}]) (v2:= .int .i64 6) Tryz.results196 ⟨_,rfl,Dw _ _ _ 0 [.int .i64 0,.string {data:=#[]}] _ Tryz.underlying53 rfl (by kernel_rfl) (Mc ?_ ?_)⟩ ⟨_,rfl,?_⟩ rfl ⟨by unfold Fl Cu D7;simp[hneg,HOK.out],?_⟩
 ·simp[go_sem,hB1,r0]
 ·simp[go_sem,hB1,r1]
 ·simp[go_sem,hB2,r2]
 ·exact(by(repeat (first|exact HB.out▸hbw|refine Below.setCell ?_ ?_ _|refine Below.alloc ?_ ?_ _|refine Below.drew ?_))<;>first|omega|(simp;done)|(simp;omega))
set_option maxRecDepth 100000 in
set_option maxHeartbeats 4000000 in
theorem wB (k:Int) (S:Nat→Prop) (v:Value) (c:List UInt8) (w:World) (hrd:Dg S w v c) (hs:c.length≤1000000) (hk:Ar k=0) (hT:Lib.Utf8Tabs 0 1 w):
 Calls Tryz.prog 196 #[.int .i64 k,v] w (Nm k c w):=by
 refine(callsIn_wide (n:=3)).1 ?_
 refine callsIn_of_wp_marks Tryz.func196 rfl trivial ?_ rfl
 simp only[Tryz.ntmps196,List.size_toArray,Ag,List.length_nil,Nat.reduceAdd,Nat.reduceSub,Array.replicate_succ,Array.replicate_zero,List.push_toArray,List.append_toArray,List.nil_append,List.cons_append]
 obtain⟨B,hB⟩:∃B,w.heap.size=B:=⟨_,rfl⟩
 have HB:=Zh hB
 have hst:=fun(w2:World) (hh:Dg S w2 v c)=>Dg.string (P:=Tryz.prog) hh 22 9 5 Tryz.underlying22 Tryz.underlying5 Tryz.underlying9
 have HRD:=Zh hrd;clear hrd
 have hok:okD k c=Aq k c:=by unfold okD Fp chS;rw[if_pos hk];simp[hk]
 have hdb:Fp k c=c:=by unfold Fp;rw[if_pos hk]
 have hneg:¬Ar k<0:=by rw[hk];omega
 have HY:=Zh (show Aq k c=true→Fl k c=k∧Cu k c=c∧D7 k c=0 from fun h=>by unfold Fl Cu D7;rw[if_neg hneg,if_neg hneg,if_neg hneg,hok,h,hdb];exact⟨rfl,rfl,rfl⟩)
 have HNO:=Zh (show Aq k c=false→Fl k c=0∧Cu k c=[]∧D7 k c=6 from fun h=>by unfold Fl Cu D7;rw[if_neg hneg,if_neg hneg,if_neg hneg,hok,h];exact⟨rfl,rfl,rfl⟩)
 clear hok hdb
 gi_wp2_with (first|(refine⟨trivial,?_⟩;gi_at_call 149;refine(callsIn_wide.2 (Hl _)).mono ?_;rintro e w1 ⟨m,n,b,rfl,hF,hl,hb⟩;obtain⟨⟨r0,r1,r2⟩,⟨z0,z1,z2⟩,hbw,hsz⟩:=P5 hB hb;have hB1:B<w1.heap.size:=by{omega};have hB2:B+1<w1.heap.size:=by{omega};obtain⟨fv,wd,hlook,-,hok⟩:=Kp hF k true (by simp only[true_iff];omega);obtain⟨g,cap,rfl,rfl,hch⟩:=hok rfl;rw[hk] at hlook))
 go_goals
 have hc1:=hst (w1.alloc (Obj.cells #[.func (.func g) #[] cap,.int .i64 0] 222)) (HRD.out.below (by rw[hB];exact hbw.alloc (by omega) _))
 rw[hc1]
 simp only[Result.andThen]
 rw[Oper.uponIn_value]
 gi_wp2
 obtain⟨F0,hF0⟩:∃F0,w1.heap.size=F0:=⟨_,rfl⟩
 obtain⟨W0,hW0⟩:∃W0,(w1.alloc (.cells #[.func (.func g) #[] cap,.int .i64 0] 222)).alloc (.cells #[.int .i64 k,.string {data:=c.toArray}] 53)=W0:=⟨_,rfl⟩
 have hsz0:W0.heap.size=F0+2:=by rw[←hW0,←hF0];simp
 have hw1:Below F0 w1 W0:=by rw[←hW0,←hF0];exact((Below.refl _ _).alloc (Nat.le_refl _) _).alloc (by simp) _
 have p0:W0.cell? ⟨F0+1,0,none⟩=some (.int .i64 k):=by rw[←hW0,←hF0];simp[go_sem]
 have p1:W0.cell? ⟨F0+1,1,none⟩=some (.string {data:=c.toArray}):=by rw[←hW0,←hF0];simp[go_sem]
 have keep:∀{p:Addr},p.block<F0→W0.cell? p=w1.cell? p∧W0.frozen? p=w1.frozen? p:=fun hp=>⟨hw1.cell hp,hw1.frozen hp⟩
 have g0:=(keep (p:=⟨B,0,none⟩) (by simp;omega)).1.trans r0
 have g1:=(keep (p:=⟨B,1,none⟩) (by simp;omega)).1.trans r1
 have g2:=(keep (p:=⟨B+1,0,none⟩) (by simp;omega)).1.trans r2
 have y0:=(keep (p:=⟨B,0,none⟩) (by simp;omega)).2.trans z0
 have y1:=(keep (p:=⟨B,1,none⟩) (by simp;omega)).2.trans z1
 have y2:=(keep (p:=⟨B+1,0,none⟩) (by simp;omega)).2.trans z2
 have hbW:Below B w W0:=hbw.trans (hw1.mono (by omega))
 rw[hW0]
 simp only[hF0]
 clear hW0 keep r0 r1 r2 z0 z1 z2 hlook hok hch hb hl hc1 hst
 refine⟨trivial,(callsIn_wide.2 (Kq k ⟨c.toArray⟩ (by simp[ByteArray.size];omega) W0 (Utf8Tabs_below hT (by rw[hB];exact hbW)))).mono ?_⟩
 rintro e w9 ⟨rfl,hb9⟩
 have hs9:=hb9.size
 have q0:=(hb9.cell (p:=⟨F0+1,0,none⟩) (by simp;omega)).trans p0
 have q1:=(hb9.cell (p:=⟨F0+1,1,none⟩) (by simp;omega)).trans p1
 have a0:=(hb9.cell (p:=⟨B,0,none⟩) (by simp;omega)).trans g0
 have a1:=(hb9.cell (p:=⟨B,1,none⟩) (by simp;omega)).trans g1
 have a2:=(hb9.cell (p:=⟨B+1,0,none⟩) (by simp;omega)).trans g2
 have z0:=(hb9.frozen (p:=⟨B,0,none⟩) (by simp;omega)).trans y0
 have z1:=(hb9.frozen (p:=⟨B,1,none⟩) (by simp;omega)).trans y1
 have z2:=(hb9.frozen (p:=⟨B+1,0,none⟩) (by simp;omega)).trans y2
 have hbf:Below B w w9:=hbW.trans (hb9.mono (by omega))
 have hc:(ByteArray.mk c.toArray).data.toList=c:=by simp
 rw[hc]
 clear p0 p1 g0 g1 g2 y0 y1 y2
 rcases Bool.eq_false_or_eq_true (Aq k c) with hv|hv
 ·rw[hv]
  have HV:=Zh hv;clear hv
  gi_wp2
  refine P4 (v1:= .agg #[.int .i64 k,.string {data:=c.toArray}]) (v2:= .int .i64 0) Tryz.results196 ⟨_,rfl,Dw _ _ _ 0 [.int .i64 k,.string {data:=c.toArray}] _ Tryz.underlying53 rfl (by kernel_rfl) (Mc ?_ ?_)⟩ ⟨_,rfl,?_⟩ rfl ⟨by rw[(HY.out HV.out).1,(HY.out HV.out).2.1,(HY.out HV.out).2.2],?_⟩
  ·simp[go_sem,a0]
  ·simp[go_sem,a1]
  ·simp[go_sem,a2]
  ·exact HB.out▸(((hbf.setCell (p:=⟨B,0,none⟩) (Nat.le_refl _) _).setCell (p:=⟨B,1,none⟩) (Nat.le_refl _) _).setCell (p:=⟨B+1,0,none⟩) (Nat.le_succ _) _)
 ·rw[hv]
  have HV:=Zh hv;clear hv
  gi_wp2
  refine P4 (v1:= .agg #[.int .i64 0,.string {data:=#[]}]) (v2:= .int .i64 6) Tryz.results196 ⟨_,rfl,Dw _ _ _ 0 [.int .i64 0,.string {data:=#[]}] _ Tryz.underlying53 rfl (by kernel_rfl) (Mc ?_ ?_)⟩ ⟨_,rfl,?_⟩ rfl ⟨by rw[(HNO.out HV.out).1,(HNO.out HV.out).2.1,(HNO.out HV.out).2.2],?_⟩
  ·simp[go_sem,a0]
  ·simp[go_sem,a1]
  ·simp[go_sem,a2]
  ·exact HB.out▸(((hbf.setCell (p:=⟨B,0,none⟩) (Nat.le_refl _) _).setCell (p:=⟨B,1,none⟩) (Nat.le_refl _) _).setCell (p:=⟨B+1,0,none⟩) (Nat.le_succ _) _)
end Go.Proofs.YtokmjjkbginodaaGreatDoor
