/- GBuild: the texts Build, one behind the other. No condition but what each lemma says. -/
import Derived.Test.YtbedjionhmaafaaGreatDoorGByt
import Derived.Test.YtbedjionhmaafaaGreatDoorGCsPl
import Derived.Test.YtbedjionhmaafaaGreatDoorShelf
import Derived.Test.YtbedjionhmaafaaGreatDoorGRes
import Derived.Shelf.Strings.Builder1
import Derived.BigQuiet
import Derived.RangeFuncCalls
set_option linter.all false
namespace Go.Proofs.YtbedjionhmaafaaGreatDoor
open Go.RowKit
theorem sizeBuilder:(Tryz.prog.info? 317).map (·.size)=some 2:=Ac
theorem liesBuilder:liesAt Tryz.prog Tryz.prog.depth 317 (2/Tryz.prog.cellsOf 317) 0 317 1=true:=Ac
set_option maxRecDepth 100000 in
set_option maxHeartbeats 4000000 in
theorem aA (b:Nat) (w:World) (h0:w.cell? ⟨b,0,none⟩=some (.pointer (some ⟨b,0,none⟩))):
 Calls Tryz.prog 254 #[.pointer (some ⟨b,0,none⟩)] w fun e w'=>e= .returned (.tuple #[])∧w'=w:=by
 obtain⟨j,hj,_⟩:=A8.1 sizeBuilder
 go_enter Tryz.func254,Tryz.ntmps254
 go_wp2
 rw[Lib.run_neq_ptr_same w _ Tryz.underlying315 hj]
 go_wp2
 go_end0
 exact⟨rfl,rfl⟩
set_option maxRecDepth 100000 in
set_option maxHeartbeats 4000000 in
theorem Y3 (b:Nat) (w:World) (h0:w.cell? ⟨b,0,none⟩=some (.pointer none)) (hsh:w.shape? b=some (317,2)) (hfz:w.frozen? ⟨b,0,none⟩=false):
 Calls Tryz.prog 254 #[.pointer (some ⟨b,0,none⟩)] w fun e w'=>e= .returned (.tuple #[])∧w'=w.setCell ⟨b,0,none⟩ (.pointer (some ⟨b,0,none⟩)):=by
 obtain⟨j,hj,hjs⟩:=A8.1 sizeBuilder
 go_enter Tryz.func254,Tryz.ntmps254
 go_wp2
 rw[Lib.run_to_unsafe w ⟨b,0,none⟩ Tryz.underlying315 Tryz.underlying522 hj (by rw[hjs];decide) hsh (Nat.zero_lt_succ 1)]
 simp only[Result.andThen]
 rw[Oper.upon_value]
 go_wp2
 rw[run_callFunc_extern Tryz.func323 Ac Ac Ac (e:=Extern.AbiNoEscape.same) Ac]
 rw[Lib.run_noEscape]
 simp only[Result.andThen]
 rw[Oper.upon_value]
 go_wp2
 rw[Lib.run_from_unsafe w ⟨b,0,none⟩ Tryz.underlying522 Tryz.underlying315 hj hsh liesBuilder]
 simp only[Result.andThen]
 rw[Oper.upon_value]
 go_wp2
 go_end0
 exact⟨rfl,rfl⟩
theorem TV (x:Nat) (d:Ly x=true):Lib.runeCells (x:Int)=Lib.byteCells (enc x):=by
 rw[I0] at d
 unfold Lib.runeCells Lib.byteCells enc Vk
 by_cases a:x<128
 ·rw[Lib.encodeRuneZ_one Aa Aa,Aj a]
  simp;omega
 ·by_cases b:x<2048
  ·rw[Lib.encodeRuneZ_two Aa Aa,Ai a,Aj b]
   simp;omega
  ·by_cases c:x<65536
   ·rw[Lib.encodeRuneZ_three Aa,Ai a,Ai b,Aj c]
    simp;omega
   ·rw[Lib.encodeRuneZ_four Aa Aa,Ai a,Ai b,Ai c]
    simp;omega
set_option maxRecDepth 100000 in
set_option maxHeartbeats 4000000 in
theorem eH (B b:Nat) (l:List UInt8) (x:Nat) (hx:Ly x=true) (w:World) (h:Lib.IsBuilder 317 5 B b (Lib.byteCells l) w) (hl:l.length≤100000000) (hB:B≤w.heap.size):
 Calls Tryz.prog 426 #[.pointer (some ⟨b,0,none⟩),.int .i32 x] w fun e w'=>(∃n,e= .returned (.tuple #[.int .i64 n,.nilIface]))∧Lib.IsBuilder 317 5 B b (Lib.byteCells (l++enc x)) w'∧Below B w w'∧KeepsOthers w w'∧Lib.OthersKept 5 (some b) w w':=by
 obtain⟨L,hL⟩:∃L,Lib.byteCells l=L:=⟨_,rfl⟩
 have hLl:L.length=l.length:=by rw[←hL,Ue]
 have hR:Lib.byteCells (l++enc x)=L++Lib.runeCells x:=by rw[TV x hx,←hL];simp[Lib.byteCells]
 have hx2:x<1114112:=by rw[I0] at hx;omega
 rw[hR]
 rw[hL] at h
 have HLl:=Zh hLl
 have hl2:L.length≤100000000:=Aa
 clear hL hR hx hLl hl
 obtain⟨R,hRr⟩:∃R,Lib.runeCells (x:Int)=R:=⟨_,rfl⟩
 rw[hRr]
 have HR:=Zh hRr;clear hRr
 have hcc:Calls Tryz.prog 254 #[.pointer (some ⟨b,0,none⟩)] w fun e w'=>e= .returned (.tuple #[])∧Lib.BuilderAt 317 5 B b (.pointer (some ⟨b,0,none⟩)) L w'∧Below B w w'∧KeepsOthers w w'∧Lib.OthersKept 5 (some b) w w':=by
  rcases h with h|h
  ·have hf:w.frozen? ⟨b,0,none⟩=false:=by obtain⟨_,v,hb,_⟩:=h;simp[World.frozen?,hb]
   exact(Y3 b w h.cell0 h.shape hf).mono fun e w' ⟨h1,h2⟩=>⟨h1,by rw[h2];exact h.used _,by rw[h2];exact(Bq B w).setCell (p:=⟨b,0,none⟩) h.1 _,by grind [KeepsOthers.setCell],by rw[h2];exact(Lib.OthersKept.refl _ _ _).setCell ⟨b,0,none⟩ rfl _⟩
  ·exact(aA b w h.cell0).mono fun e w' ⟨h1,h2⟩=>⟨h1,by rw[h2];exact h,by rw[h2];exact Bq _ _,by rw[h2];exact KeepsOthers.refl _,by grind [Lib.OthersKept.refl]⟩
 have HCC:=Zh hcc;clear hcc h
 go_enter Tryz.func426,Tryz.ntmps426
 go_wp2_with fail
 refine HCC.out.mono ?_
 rintro e w1 ⟨rfl,⟨hBb,v,hbk,hown,hne⟩,hb1,hko1,hok1⟩
 obtain⟨va,vc,rfl⟩:=Z9 hown
 have c1:w1.cell? ⟨b,1,none⟩=some (.slice va L.length vc):=by rw[cell_of_row _ _ _ _ _ _ hbk];rfl
 have hB1:B≤w1.heap.size:=Bi hB hb1.size
 have hblt:b<w1.heap.size:=(Br.1 hbk).1
 have HBK:=Zh hbk;clear hbk
 go_wp2_with fail
 refine(Tryz.utf8_AppendRune_plain B _ L.length L x Aa Aa w1 hown Aa hB1).mono ?_
 rintro e w2 ⟨v2,rfl,hown2,o,hg⟩
 rw[HR.out] at hown2
 have hb2:w2.heap[b]?=some (.cells #[.pointer (some ⟨b,0,none⟩),.slice va L.length vc] 317 (0,0)):=by
  rw[hg.block b Af (fun e=>hne e.symm),heap_alloc_old _ _ hblt];exact HBK.out
 have hlt2:b<w2.heap.size:=(Br.1 hb2).1
 obtain⟨va2,vc2,rfl⟩:=Z9 hown2
 have d1:w2.cell? ⟨b,1,none⟩=some (.slice va L.length vc):=by rw[cell_of_row _ _ _ _ _ _ hb2];rfl
 have f1:w2.frozen? ⟨b,1,none⟩=false:=by simp[World.frozen?,hb2]
 have hbw:Below B w w2:=hb1.trans (((Bq B w1).alloc hB1 o).grown hg Af (fun k e=>(hown.lt k e).1))
 have hko:KeepsOthers w w2:=by
  refine(hko1.trans (KeepsOthers.alloc w1 o)).trans (KeepsOthers.of_grownBy hg ?_)
  intro j ob e hob
  rcases hown.2 with⟨h1,_⟩|⟨g,cap,cur,h1,_,h2,_⟩
  ·rw[h1] at e;cases e
  ·rw[h1] at e
   simp only[Value.ownBlock,A7] at e
   subst e
   rw[heap_alloc_old _ _ (Br.1 h2).1,h2] at hob
   cases hob;rfl
 have hok:Lib.OthersKept 5 (some b) w w2:=by
  refine(hok1.alloc o).grown hg ?_
  intro j e
  rcases hown.2 with⟨h1,_⟩|⟨g,cap,cur,h1,_,h2,_⟩
  ·rw[h1] at e;cases e
  ·grind [Value.ownBlock,Option.some.injEq,heap_alloc_old,Array.getElem?_eq_some_iff,trans]
 have HKO:=Zh hko;clear hko hko1
 have HOK:=Zh hok;clear hok hok1
 have HG:=Zh hg;have HO2:=Zh hown2;have HNE:=Zh hne;have HB2:=Zh hb2;have HBW:=Zh hbw;have HOW:=Zh hown
 clear hg hown2 hne hb2 hbw hown c1
 go_wp2
 go_ret2
 have hne2:(Value.slice va2 (L.length+R.length) vc2).ownBlock≠some b:=by
  intro e
  rcases HO2.out.2 with⟨h1,_⟩|⟨g,cap,cur,h1,_,h2,_⟩
  ·rw[h1] at e;cases e
  ·rw[h1] at e
   simp only[Value.ownBlock,A7] at e
   rw[e,HB2.out] at h2
   simp at h2
 refine⟨⟨_,rfl⟩,.inr ⟨hBb,.slice va2 (L.length+R.length) vc2,?_,?_,hne2⟩,HBW.out.setCell (p:=⟨b,1,none⟩) hBb _,HKO.out.trans (KeepsOthers.setCell _ _ _),HOK.out.setCell ⟨b,1,none⟩ rfl _⟩
 ·simp[World.setCell,Array.getElem?_modify,HB2.out]
 ·rw[En]
  exact HO2.out.kept (row:=some b) ⟨rfl,rfl,rfl,by simp[World.setCell],fun k _ hk=>Below.heap_setCell _ _ _ _ (fun e=>hk (by simp[e]))⟩ (Cv hne2)
end Go.Proofs.YtbedjionhmaafaaGreatDoor
