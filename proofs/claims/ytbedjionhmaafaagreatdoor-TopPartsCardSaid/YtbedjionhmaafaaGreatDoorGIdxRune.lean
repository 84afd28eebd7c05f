/- GIdxRune: the texts IdxRune, one behind the other. No condition but what each lemma says. -/
import Derived.Test.YtbedjionhmaafaaGreatDoorGCsPl
import Derived.Test.YtbedjionhmaafaaGreatDoorShelf
import Derived.Deep.RegionWith
import Derived.StillTailTactics
import Derived.BigQuiet
import Derived.Deep.QuietTactic
set_option linter.all false
namespace Go.Proofs.YtbedjionhmaafaaGreatDoor
open Go.RowKit
theorem N5 {B:Nat} {a w:World} (h:Below B a w):∀q,Below B a (w.drewN q)
 |0=>h
 |q+1=>(N5 h q).drew
theorem Kf (x:Nat):Lib.validRune (x:Int)=Ly x:=by
 unfold Lib.validRune Ly
 rw[Bz]
 simp
 omega
set_option maxRecDepth 100000 in
set_option maxHeartbeats 1000000 in
theorem TJ (x:Nat) (h:128≤x) (hx:x<2147483648) (hs:Ly x=false) (w:World):
 Calls Tryz.prog 430 #[.string {data:=#[32,39,40,41,43,44,45,46,47,58,61,63]},.int .i32 x] w fun e w'=>e= .returned (.int .i64 (-1))∧Below w.heap.size w w':=by
 have hv:=(Kf x).trans hs
 have HV:=Zh hv
 have d1:decide ((0:Int)≤x)=true:=Ab
 have d2:decide ((x:Int)<128)=false:=by rw[Ar];omega
 have hne:x≠65533:=by rintro rfl;revert hs;decide
 have d3:((x:Int)==65533)=false:=by rw[An];omega
 clear hs hv hne
 go_enter Tryz.func430,Tryz.ntmps430
 go_wp2_with (go_at_call 423;refine(Tryz.utf8_ValidRune _ _).mono ?_;rintro e w1 ⟨rfl,hw⟩;have hw2:=hw.symm;subst hw2;rw[HV.out])
 go_ret
 exact⟨rfl,Bq _ _⟩
theorem IZ (x:Nat) (a:Ly x=true):Utf8.valid (x:Int)=true:=by
 grind [I0,Utf8.valid,decide_eq_true]
theorem CT (x:Nat) (a:Ly x=true):Utf8.encode (x:Int)=⟨(enc x).toArray⟩:=by
 have b:=IZ x a
 unfold Utf8.encode enc Vk
 rw[b,Aj rfl,Cr]
 grind
theorem CU (x:Nat) (h:128≤x):∃m Z,(enc x).length=m+1∧(m=1∨m=2∨m=3)∧128≤Z.toNat∧(enc x)[m]?=some Z:=by
 have c:128≤(UInt8.ofNat (128+x%64)).toNat:=by rw[Gl _ Aa];omega
 unfold enc Vk
 rw[Ai Aa]
 by_cases b:x<2048
 ·simp_all
 ·rw[Ai b]
  by_cases a:x<65536
  ·simp_all
  ·rw[Ai a];simp_all
theorem iQ (x:Nat) (h:128≤x) (i:Ly x=true):∃(a:ByteArray) (m:Nat) (Z:UInt8),Utf8.encode (x:Int)=a∧a.size=m+1∧(m=1∨m=2∨m=3)∧128≤Z.toNat∧∀c:m<a.size,a[m]'c=Z:=by
 obtain⟨m,Z,d,f,e,b⟩:=CU x h
 rw[Ew] at b
 obtain⟨_,g⟩:=b
 exact⟨⟨(enc x).toArray⟩,m,Z,CT x i,by rw[←d];rfl,f,e,fun c=>g⟩
theorem iR:∀(l:List UInt8) (c:UInt8),(∀b∈l,b≠c)→Lib.indexByte l c= -1:=by
 intro l
 induction l with
 |nil=>intro c _;rfl
 |cons b l a=>
  grind [Lib.indexByte,List.mem_cons_of_mem,beq_eq_false_iff_ne,List.mem_cons_self]
theorem ixb (a:Nat) (Z:UInt8) (g:128≤Z.toNat) (w:World):
 Calls Tryz.prog 434 #[.string (({data:=#[32,39,40,41,43,44,45,46,47,58,61,63]}:ByteArray).extract a 12),.int .u8 Z.toNat] w fun e w'=>e= .returned (.int .i64 (-1))∧w'=w:=by
 refine(Tryz.strings_IndexByte _ _ _).mono ?_
 rintro e w' ⟨rfl,rfl⟩
 refine⟨?_,rfl⟩
 rw[iR]
 intro b f e
 have c:b∈({data:=#[32,39,40,41,43,44,45,46,47,58,61,63]}:ByteArray).data.toList:=by
  rw[ByteArray.data_extract,Array.toList_extract] at f
  exact List.mem_of_mem_drop (List.mem_of_mem_take Aa)
 have:∀b∈([32,39,40,41,43,44,45,46,47,58,61,63]:List UInt8),b.toNat<128:=Ae
 have d:=this b c
 rw[e] at d
 simp at d
 omega
set_option maxRecDepth 100000 in
set_option maxHeartbeats 1000000 in
theorem JA (x:Nat) (h:128≤x) (hx:x<2147483648) (hs:Ly x=true) (hne:x≠65533) (w:World):
 Calls Tryz.prog 430 #[.string {data:=#[32,39,40,41,43,44,45,46,47,58,61,63]},.int .i32 x] w fun e w'=>e= .returned (.int .i64 (-1))∧Below w.heap.size w w':=by
 have hv:=(Kf x).trans hs
 have HV:=Zh hv
 have d1:decide ((0:Int)≤x)=true:=Ab
 have d2:decide ((x:Int)<128)=false:=by rw[Ar];omega
 have d3:((x:Int)==65533)=false:=by rw[An];omega
 have Hs:=Zh hs
 clear hs hv hne
 go_enter Tryz.func430,Tryz.ntmps430
 go_wp2_with (go_at_call 423;refine(Tryz.utf8_ValidRune _ _).mono ?_;rintro e w1 ⟨rfl,hw⟩;have hw2:=hw.symm;subst hw2;rw[HV.out])
 obtain⟨rs,m,Z,hrs,hsz,hm,hZ,hget⟩:=iQ x h Hs.out
 have e1:rs[m]' Aa=Z:=hget Aa
 have HG:=Zh hget;clear hget
 rcases hm with rfl|rfl|rfl
 ·have n1:((39:Int) !=(Z.toNat:Int))=true:=by rw[Av];omega
  have sz1:(1:Int)<(rs.size:Int):=Aa
  go_step3
  go_wp2
  go_loopw [9,10] (fun i f wr=>i= .int .i64 1∧f= .int .i64 0∧Below w.heap.size w wr) (fun _ _ _=>0)
  case atStart=>exact⟨rfl,rfl,Bq _ _⟩
  case round=>
   obtain⟨rfl,rfl,hb⟩:=hrel
   go_wp2
   go_step3
   go_wp2
   go_quiet (fail)
   have q:(((({data:=#[32,39,40,41,43,44,45,46,47,58,61,63]}:ByteArray)[1]' Ae).toNat:Int) !=(Z.toNat:Int))=true:=n1
   rw[q]
   clear n1 q hrs d1 d2 d3 Hs HV
   have HZ:=Zh hZ;clear hZ
   go_wp2
   have k1:IntKind.i64.wrap ((1:Int)+1)=2:=Bl _ Aa
   have k3:IntKind.i64.wrap (2:Int)=2:=Bl _ Aa
   have k2:∀w:World,(Instr.slice 9 (.string ({data:=#[32,39,40,41,43,44,45,46,47,58,61,63]}:ByteArray)) (some (.int .i64 2)) none none).run Tryz.prog w= .ok (.string (({data:=#[32,39,40,41,43,44,45,46,47,58,61,63]}:ByteArray).extract 2 12)) w:=fun _=>by kernel_rfl
   go_region_with (go_at_call 434;refine(ixb 2 Z HZ.out _).mono ?_;rintro e w2 ⟨rfl,hw2⟩;have hw3:=hw2.symm;subst hw3)
   go_wp2
   rw[Exit.noGoto_ret]
   go_wp2
   try rw[Exit.noGoto_ret]
   try go_wp2
   go_ret
   exact⟨rfl,((N5 hb nq)).drew⟩
 ·have n1:((40:Int) !=(Z.toNat:Int))=true:=by rw[Av];omega
  have sz1:(2:Int)<(rs.size:Int):=Aa
  go_step3
  go_wp2
  go_loopw [9,10] (fun i f wr=>i= .int .i64 2∧f= .int .i64 0∧Below w.heap.size w wr) (fun _ _ _=>0)
  case atStart=>exact⟨rfl,rfl,Bq _ _⟩
  case round=>
   obtain⟨rfl,rfl,hb⟩:=hrel
   go_wp2
   go_step3
   go_wp2
   go_quiet (fail)
   have q:(((({data:=#[32,39,40,41,43,44,45,46,47,58,61,63]}:ByteArray)[2]' Ae).toNat:Int) !=(Z.toNat:Int))=true:=n1
   rw[q]
   clear n1 q hrs d1 d2 d3 Hs HV
   have HZ:=Zh hZ;clear hZ
   go_wp2
   have k1:IntKind.i64.wrap ((2:Int)+1)=3:=Bl _ Aa
   have k3:IntKind.i64.wrap (3:Int)=3:=Bl _ Aa
   have k2:∀w:World,(Instr.slice 9 (.string ({data:=#[32,39,40,41,43,44,45,46,47,58,61,63]}:ByteArray)) (some (.int .i64 3)) none none).run Tryz.prog w= .ok (.string (({data:=#[32,39,40,41,43,44,45,46,47,58,61,63]}:ByteArray).extract 3 12)) w:=fun _=>by kernel_rfl
   go_region_with (go_at_call 434;refine(ixb 3 Z HZ.out _).mono ?_;rintro e w2 ⟨rfl,hw2⟩;have hw3:=hw2.symm;subst hw3)
   go_wp2
   rw[Exit.noGoto_ret]
   go_wp2
   try rw[Exit.noGoto_ret]
   try go_wp2
   go_ret
   exact⟨rfl,((N5 hb nq)).drew⟩
 ·have n1:((41:Int) !=(Z.toNat:Int))=true:=by rw[Av];omega
  have sz1:(3:Int)<(rs.size:Int):=Aa
  go_step3
  go_wp2
  go_loopw [9,10] (fun i f wr=>i= .int .i64 3∧f= .int .i64 0∧Below w.heap.size w wr) (fun _ _ _=>0)
  case atStart=>exact⟨rfl,rfl,Bq _ _⟩
  case round=>
   obtain⟨rfl,rfl,hb⟩:=hrel
   go_wp2
   go_step3
   go_wp2
   go_quiet (fail)
   have q:(((({data:=#[32,39,40,41,43,44,45,46,47,58,61,63]}:ByteArray)[3]' Ae).toNat:Int) !=(Z.toNat:Int))=true:=n1
   rw[q]
   clear n1 q hrs d1 d2 d3 Hs HV
   have HZ:=Zh hZ;clear hZ
   go_wp2
   have k1:IntKind.i64.wrap ((3:Int)+1)=4:=Bl _ Aa
   have k3:IntKind.i64.wrap (4:Int)=4:=Bl _ Aa
   have k2:∀w:World,(Instr.slice 9 (.string ({data:=#[32,39,40,41,43,44,45,46,47,58,61,63]}:ByteArray)) (some (.int .i64 4)) none none).run Tryz.prog w= .ok (.string (({data:=#[32,39,40,41,43,44,45,46,47,58,61,63]}:ByteArray).extract 4 12)) w:=fun _=>by kernel_rfl
   go_region_with (go_at_call 434;refine(ixb 4 Z HZ.out _).mono ?_;rintro e w2 ⟨rfl,hw2⟩;have hw3:=hw2.symm;subst hw3)
   go_wp2
   rw[Exit.noGoto_ret]
   go_wp2
   try rw[Exit.noGoto_ret]
   try go_wp2
   go_ret
   exact⟨rfl,((N5 hb nq)).drew⟩
theorem TL:∀j:Fin 12,Utf8.decode ({data:=#[32,39,40,41,43,44,45,46,47,58,61,63]}:ByteArray) j.val=(oth.getD j.val 0,1)∧oth.getD j.val 0<128:=by decide+kernel
set_option maxRecDepth 100000 in
set_option maxHeartbeats 1000000 in
theorem TN (w:World):
 Calls Tryz.prog 430 #[.string {data:=#[32,39,40,41,43,44,45,46,47,58,61,63]},.int .i32 65533] w fun e w'=>e= .returned (.int .i64 (-1))∧Below w.heap.size w w':=by
 go_enter Tryz.func430,Tryz.ntmps430
 go_wp2
 go_loopw [5,6] (fun _ _ wr=>∃j:Nat,j≤12∧wr.heap[w.heap.size]?=some (.stringIter ({data:=#[32,39,40,41,43,44,45,46,47,58,61,63]}:ByteArray) j)∧Below w.heap.size w wr) (fun _ _ wr=>12-wr.iterPos w.heap.size)
 case atStart=>exact⟨0,Aa,World.iter_heap _ _ _,(Bq _ _).alloc (At _) _⟩
 case round=>
  obtain⟨j,hj,hi,hb⟩:=hrel
  have hm:wr.iterPos w.heap.size=j:=by unfold World.iterPos;rw[hi]
  by_cases hlt:j<12
  ·obtain⟨hd,hc⟩:=TL ⟨j,hlt⟩
   simp only[] at hd hc
   obtain⟨w2,hn,hi2,hk,h1,h2,h3,h4⟩:=Sg (P:=Tryz.prog) 0 hi (show j<({data:=#[32,39,40,41,43,44,45,46,47,58,61,63]}:ByteArray).size from hlt)
   rw[hd] at hn hi2
   obtain⟨c,hcc⟩:∃c,oth.getD j 0=c:=⟨_,rfl⟩
   rw[hcc] at hn hc
   have q:((c:Int)==65533)=false:=by rw[An];omega
   have hb2:=I6 hb (At _) hk h1 h2 h3 h4
   have hm2:w2.iterPos w.heap.size=j+1:=by unfold World.iterPos;rw[hi2]
   have HI:=Zh hi2;have HM:=Zh hm;have HM2:=Zh hm2
   clear hi hi2 hm hm2 hd hcc hk h1 h2 h3 h4
   go_wp2
   go_roundw
   case rel=>exact⟨j+1,Aa,HI.out,hb2⟩
   case measure=>rw[HM.out,HM2.out];omega
  ·have hn:=P0 (P:=Tryz.prog) 0 hi (show¬j<({data:=#[32,39,40,41,43,44,45,46,47,58,61,63]}:ByteArray).size from hlt)
   go_wp2
   go_ret
   exact⟨rfl,hb⟩
theorem JB (x:Nat) (h:128≤x) (c:x<2147483648) (w:World):
 Calls Tryz.prog 430 #[.string {data:=#[32,39,40,41,43,44,45,46,47,58,61,63]},.int .i32 x] w fun e w'=>e= .returned (.int .i64 (-1))∧Below w.heap.size w w':=by
 by_cases a:x=65533
 ·subst a;exact TN w
 ·rcases Bool.eq_false_or_eq_true (Ly x) with b|b
  all_goals grind [JA,TJ]
end Go.Proofs.YtbedjionhmaafaaGreatDoor
