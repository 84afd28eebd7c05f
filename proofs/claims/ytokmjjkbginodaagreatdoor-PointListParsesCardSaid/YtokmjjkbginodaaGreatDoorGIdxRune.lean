/- GIdxRune: the texts IdxRune, one behind the other. No condition but what each lemma says. -/
import Derived.Test.YtokmjjkbginodaaGreatDoorGCsPl
import Derived.Test.YtokmjjkbginodaaGreatDoorShelf
import Derived.Test.YtokmjjkbginodaaGreatDoorGRange
import Derived.Deep.RegionWith
import Derived.StillTailTactics
import Derived.BigQuiet
import Derived.Deep.QuietTactic
namespace Go.Proofs.YtokmjjkbginodaaGreatDoor
open Go.RowKit
theorem Ii {B:Nat} {a w:World} (h:Below B a w):∀q,Below B a (w.drewN q)
 |0=>h
 |q+1=>(Ii h q).drew
theorem Fq (x:Nat):Lib.validRune (x:Int)=E7 x:=by
 unfold Lib.validRune E7
 rw[Bool.eq_iff_iff]
 simp
 omega
set_option maxRecDepth 100000 in
set_option maxHeartbeats 1000000 in
theorem DW (x:Nat) (h:128≤x) (hx:x<2147483648) (hs:E7 x=false) (w:World):
 Calls Tryz.prog 216 #[.string {data:=#[32,39,40,41,43,44,45,46,47,58,61,63]},.int .i32 x] w fun e w'=>e= .returned (.int .i64 (-1))∧Below w.heap.size w w':=by
 have hv:=(Fq x).trans hs
 have HV:=Zh hv
 have d1:decide ((0:Int)≤x)=true:=by simp
 have d2:decide ((x:Int)<128)=false:=by rw[decide_eq_false_iff_not];omega
 have hne:x≠65533:=by rintro rfl;revert hs;decide
 have d3:((x:Int)==65533)=false:=by rw[beq_eq_false_iff_ne];omega
 clear hs hv hne
 go_enter Tryz.func216,Tryz.ntmps216
 go_wp2_with (go_at_call 192;refine(Tryz.utf8_ValidRune _ _).mono ?_;rintro e w1 ⟨rfl,hw⟩;have hw2:=hw.symm;subst hw2;rw[HV.out])
 go_ret
 exact⟨rfl,Below.refl _ _⟩
theorem vV (x:Nat) (hs:E7 x=true):Utf8.valid (x:Int)=true:=by
 rw[C3] at hs
 have a:((x:Int)<0xD800)∨((0xE000:Int)≤x∧(x:Int)≤0x10FFFF):=by omega
 unfold Utf8.valid
 rcases a with a|⟨a,b⟩
 ·rw[decide_eq_true a];simp
 ·rw[decide_eq_true a,decide_eq_true b];simp
theorem rD (x:Nat) (hs:E7 x=true):Utf8.encode (x:Int)=⟨(enc x).toArray⟩:=by
 have hv:=vV x hs
 unfold Utf8.encode enc L8
 rw[hv,if_pos rfl,Int.toNat_natCast]
 by_cases c0:x<128
 ·rw[if_pos c0,if_pos c0];rfl
 ·rw[if_neg c0,if_neg c0]
  by_cases c1:x<2048
  ·rw[if_pos c1,if_pos c1];rfl
  ·rw[if_neg c1,if_neg c1]
   by_cases c2:x<65536
   ·rw[if_pos c2,if_pos c2];rfl
   ·rw[if_neg c2,if_neg c2];rfl
theorem rE (x:Nat) (h:128≤x):∃m Z,(enc x).length=m+1∧(m=1∨m=2∨m=3)∧128≤Z.toNat∧(enc x)[m]?=some Z:=by
 have hl:128≤(UInt8.ofNat (128+x%64)).toNat:=by rw[Ce _ (by omega)];omega
 unfold enc L8
 rw[if_neg (by omega)]
 by_cases c1:x<2048
 ·rw[if_pos c1];exact⟨1,_,rfl,.inl rfl,hl,rfl⟩
 ·rw[if_neg c1]
  by_cases c2:x<65536
  ·rw[if_pos c2];exact⟨2,_,rfl,.inr (.inl rfl),hl,rfl⟩
  ·rw[if_neg c2];exact⟨3,_,rfl,.inr (.inr rfl),hl,rfl⟩
theorem Zr (x:Nat) (h:128≤x) (hs:E7 x=true):∃(rs:ByteArray) (m:Nat) (Z:UInt8),Utf8.encode (x:Int)=rs∧rs.size=m+1∧(m=1∨m=2∨m=3)∧128≤Z.toNat∧∀hm:m<rs.size,rs[m]'hm=Z:=by
 obtain⟨m,Z,h1,h2,h3,h4⟩:=rE x h
 rw[Aw] at h4
 obtain⟨_,h5⟩:=h4
 exact⟨⟨(enc x).toArray⟩,m,Z,rD x hs,by rw[←h1];rfl,h2,h3,fun hm=>h5⟩
theorem Zs:∀(l:List UInt8) (c:UInt8),(∀b∈l,b≠c)→Lib.indexByte l c= -1:=by
 intro l
 induction l with
 |nil=>intro c _;rfl
 |cons b l ih=>
  intro c h
  unfold Lib.indexByte
  rw[ih c fun b hb=>h b (List.mem_cons_of_mem _ hb)]
  have:(b==c)=false:=by rw[beq_eq_false_iff_ne];exact h b List.mem_cons_self
  rw[this];rfl
theorem ixb (a:Nat) (Z:UInt8) (hZ:128≤Z.toNat) (w:World):
 Calls Tryz.prog 241 #[.string (({data:=#[32,39,40,41,43,44,45,46,47,58,61,63]}:ByteArray).extract a 12),.int .u8 Z.toNat] w fun e w'=>e= .returned (.int .i64 (-1))∧w'=w:=by
 refine(Tryz.strings_IndexByte _ _ _).mono ?_
 rintro e w' ⟨rfl,rfl⟩
 refine⟨?_,rfl⟩
 rw[Zs]
 intro b hb e
 have hb2:b∈({data:=#[32,39,40,41,43,44,45,46,47,58,61,63]}:ByteArray).data.toList:=by
  rw[ByteArray.data_extract,Array.toList_extract] at hb
  exact List.mem_of_mem_drop (List.mem_of_mem_take (by simpa[List.extract_eq_take_drop] using hb))
 have:∀b∈([32,39,40,41,43,44,45,46,47,58,61,63]:List UInt8),b.toNat<128:=by decide
 have h1:=this b hb2
 rw[e] at h1
 simp at h1
 omega
set_option maxRecDepth 100000 in
set_option maxHeartbeats 1000000 in
theorem vW (x:Nat) (h:128≤x) (hx:x<2147483648) (hs:E7 x=true) (hne:x≠65533) (w:World):
 Calls Tryz.prog 216 #[.string {data:=#[32,39,40,41,43,44,45,46,47,58,61,63]},.int .i32 x] w fun e w'=>e= .returned (.int .i64 (-1))∧Below w.heap.size w w':=by
 have hv:=(Fq x).trans hs
 have HV:=Zh hv
 have d1:decide ((0:Int)≤x)=true:=by simp
 have d2:decide ((x:Int)<128)=false:=by rw[decide_eq_false_iff_not];omega
 have d3:((x:Int)==65533)=false:=by rw[beq_eq_false_iff_ne];omega
 have Hs:=Zh hs
 clear hs hv hne
 go_enter Tryz.func216,Tryz.ntmps216
 go_wp2_with (go_at_call 192;refine(Tryz.utf8_ValidRune _ _).mono ?_;rintro e w1 ⟨rfl,hw⟩;have hw2:=hw.symm;subst hw2;rw[HV.out])
 obtain⟨rs,m,Z,hrs,hsz,hm,hZ,hget⟩:=Zr x h Hs.out
 have e1:rs[m]'(by omega)=Z:=hget (by omega)
 have HG:=Zh hget;clear hget
 rcases hm with rfl|rfl|rfl
 ·have n1:((39:Int) !=(Z.toNat:Int))=true:=by rw[bne_iff_ne];omega
  have sz1:(1:Int)<(rs.size:Int):=by omega
  go_step3
  go_wp2
  go_loopw [9,10] (fun i f wr=>i= .int .i64 1∧f= .int .i64 0∧Below w.heap.size w wr) (fun _ _ _=>0)
  case atStart=>exact⟨rfl,rfl,Below.refl _ _⟩
  case round=>
   obtain⟨rfl,rfl,hb⟩:=hrel
   go_wp2
   go_step3
   go_wp2
   go_quiet (fail)
   have q:(((({data:=#[32,39,40,41,43,44,45,46,47,58,61,63]}:ByteArray)[1]'(by decide)).toNat:Int) !=(Z.toNat:Int))=true:=n1
   rw[q]
   clear n1 q hrs d1 d2 d3 Hs HV
   have HZ:=Zh hZ;clear hZ
   go_wp2
   have k1:IntKind.i64.wrap ((1:Int)+1)=2:=IntWalk.i64_in _ (by omega)
   have k3:IntKind.i64.wrap (2:Int)=2:=IntWalk.i64_in _ (by omega)
   have k2:∀w:World,(Instr.slice 9 (.string ({data:=#[32,39,40,41,43,44,45,46,47,58,61,63]}:ByteArray)) (some (.int .i64 2)) none none).run Tryz.prog w= .ok (.string (({data:=#[32,39,40,41,43,44,45,46,47,58,61,63]}:ByteArray).extract 2 12)) w:=fun _=>by kernel_rfl
   go_region_with (go_at_call 241;refine(ixb 2 Z HZ.out _).mono ?_;rintro e w2 ⟨rfl,hw2⟩;have hw3:=hw2.symm;subst hw3)
   go_wp2
   rw[Exit.noGoto_ret]
   go_wp2
   try rw[Exit.noGoto_ret]
   try go_wp2
   go_ret
   exact⟨rfl,((Ii hb nq)).drew⟩
 ·have n1:((40:Int) !=(Z.toNat:Int))=true:=by rw[bne_iff_ne];omega
  have sz1:(2:Int)<(rs.size:Int):=by omega
  go_step3
  go_wp2
  go_loopw [9,10] (fun i f wr=>i= .int .i64 2∧f= .int .i64 0∧Below w.heap.size w wr) (fun _ _ _=>0)
  case atStart=>exact⟨rfl,rfl,Below.refl _ _⟩
  case round=>
   obtain⟨rfl,rfl,hb⟩:=hrel
   go_wp2
   go_step3
   go_wp2
   go_quiet (fail)
   have q:(((({data:=#[32,39,40,41,43,44,45,46,47,58,61,63]}:ByteArray)[2]'(by decide)).toNat:Int) !=(Z.toNat:Int))=true:=n1
   rw[q]
   clear n1 q hrs d1 d2 d3 Hs HV
   have HZ:=Zh hZ;clear hZ
   go_wp2
   have k1:IntKind.i64.wrap ((2:Int)+1)=3:=IntWalk.i64_in _ (by omega)
   have k3:IntKind.i64.wrap (3:Int)=3:=IntWalk.i64_in _ (by omega)
   have k2:∀w:World,(Instr.slice 9 (.string ({data:=#[32,39,40,41,43,44,45,46,47,58,61,63]}:ByteArray)) (some (.int .i64 3)) none none).run Tryz.prog w= .ok (.string (({data:=#[32,39,40,41,43,44,45,46,47,58,61,63]}:ByteArray).extract 3 12)) w:=fun _=>by kernel_rfl
   go_region_with (go_at_call 241;refine(ixb 3 Z HZ.out _).mono ?_;rintro e w2 ⟨rfl,hw2⟩;have hw3:=hw2.symm;subst hw3)
   go_wp2
   rw[Exit.noGoto_ret]
   go_wp2
   try rw[Exit.noGoto_ret]
   try go_wp2
   go_ret
   exact⟨rfl,((Ii hb nq)).drew⟩
 ·have n1:((41:Int) !=(Z.toNat:Int))=true:=by rw[bne_iff_ne];omega
  have sz1:(3:Int)<(rs.size:Int):=by omega
  go_step3
  go_wp2
  go_loopw [9,10] (fun i f wr=>i= .int .i64 3∧f= .int .i64 0∧Below w.heap.size w wr) (fun _ _ _=>0)
  case atStart=>exact⟨rfl,rfl,Below.refl _ _⟩
  case round=>
   obtain⟨rfl,rfl,hb⟩:=hrel
   go_wp2
   go_step3
   go_wp2
   go_quiet (fail)
   have q:(((({data:=#[32,39,40,41,43,44,45,46,47,58,61,63]}:ByteArray)[3]'(by decide)).toNat:Int) !=(Z.toNat:Int))=true:=n1
   rw[q]
   clear n1 q hrs d1 d2 d3 Hs HV
   have HZ:=Zh hZ;clear hZ
   go_wp2
   have k1:IntKind.i64.wrap ((3:Int)+1)=4:=IntWalk.i64_in _ (by omega)
   have k3:IntKind.i64.wrap (4:Int)=4:=IntWalk.i64_in _ (by omega)
   have k2:∀w:World,(Instr.slice 9 (.string ({data:=#[32,39,40,41,43,44,45,46,47,58,61,63]}:ByteArray)) (some (.int .i64 4)) none none).run Tryz.prog w= .ok (.string (({data:=#[32,39,40,41,43,44,45,46,47,58,61,63]}:ByteArray).extract 4 12)) w:=fun _=>by kernel_rfl
   go_region_with (go_at_call 241;refine(ixb 4 Z HZ.out _).mono ?_;rintro e w2 ⟨rfl,hw2⟩;have hw3:=hw2.symm;subst hw3)
   go_wp2
   rw[Exit.noGoto_ret]
   go_wp2
   try rw[Exit.noGoto_ret]
   try go_wp2
   go_ret
   exact⟨rfl,((Ii hb nq)).drew⟩
theorem DX:∀j:Fin 12,Utf8.decode ({data:=#[32,39,40,41,43,44,45,46,47,58,61,63]}:ByteArray) j.val=(oth.getD j.val 0,1)∧oth.getD j.val 0<128:=by decide+kernel
set_option maxRecDepth 100000 in
set_option maxHeartbeats 1000000 in
theorem DY (w:World):
 Calls Tryz.prog 216 #[.string {data:=#[32,39,40,41,43,44,45,46,47,58,61,63]},.int .i32 65533] w fun e w'=>e= .returned (.int .i64 (-1))∧Below w.heap.size w w':=by
 go_enter Tryz.func216,Tryz.ntmps216
 go_wp2
 go_loopw [5,6] (fun _ _ wr=>∃j:Nat,j≤12∧wr.heap[w.heap.size]?=some (.stringIter ({data:=#[32,39,40,41,43,44,45,46,47,58,61,63]}:ByteArray) j)∧Below w.heap.size w wr) (fun _ _ wr=>12-wr.iterPos w.heap.size)
 case atStart=>exact⟨0,by omega,World.iter_heap _ _ _,(Below.refl _ _).alloc (Nat.le_refl _) _⟩
 case round=>
  obtain⟨j,hj,hi,hb⟩:=hrel
  have hm:wr.iterPos w.heap.size=j:=by unfold World.iterPos;rw[hi]
  by_cases hlt:j<12
  ·obtain⟨hd,hc⟩:=DX ⟨j,hlt⟩
   simp only[] at hd hc
   obtain⟨w2,hn,hi2,hk,h1,h2,h3,h4⟩:=Mg (P:=Tryz.prog) 0 hi (show j<({data:=#[32,39,40,41,43,44,45,46,47,58,61,63]}:ByteArray).size from hlt)
   rw[hd] at hn hi2
   obtain⟨c,hcc⟩:∃c,oth.getD j 0=c:=⟨_,rfl⟩
   rw[hcc] at hn hc
   have q:((c:Int)==65533)=false:=by rw[beq_eq_false_iff_ne];omega
   have hb2:=Ek hb (Nat.le_refl _) hk h1 h2 h3 h4
   have hm2:w2.iterPos w.heap.size=j+1:=by unfold World.iterPos;rw[hi2]
   have HI:=Zh hi2;have HM:=Zh hm;have HM2:=Zh hm2
   clear hi hi2 hm hm2 hd hcc hk h1 h2 h3 h4
   go_wp2
   go_roundw
   case rel=>exact⟨j+1,by omega,HI.out,hb2⟩
   case measure=>rw[HM.out,HM2.out];omega
  ·have hn:=J5 (P:=Tryz.prog) 0 hi (show¬j<({data:=#[32,39,40,41,43,44,45,46,47,58,61,63]}:ByteArray).size from hlt)
   go_wp2
   go_ret
   exact⟨rfl,hb⟩
theorem vX (x:Nat) (h:128≤x) (hx:x<2147483648) (w:World):
 Calls Tryz.prog 216 #[.string {data:=#[32,39,40,41,43,44,45,46,47,58,61,63]},.int .i32 x] w fun e w'=>e= .returned (.int .i64 (-1))∧Below w.heap.size w w':=by
 by_cases he:x=65533
 ·subst he;exact DY w
 ·rcases Bool.eq_false_or_eq_true (E7 x) with hs|hs
  ·exact vW x h hx hs he w
  ·exact DW x h hx hs w
end Go.Proofs.YtokmjjkbginodaaGreatDoor
