/- ND: the text LawYC. No condition but what each lemma says. -/
import Derived.Test.YtgamacmidohpfaaGreatDoorNC
set_option maxRecDepth 100000
set_option maxHeartbeats 16000000
namespace Go.Proofs.YtgamacmidohpfaaGreatDoor
open Go.RowKit
theorem oS {α:Type} {l:List α} {i:Nat} {x y:α} (h:l[i]?=some y):l.set i x=l↔x=y:=by
 obtain⟨hlt,he⟩:=List.getElem?_eq_some_iff.1 h
 constructor
 ·intro e
  have:=congrArg (fun m=>m[i]?) e
  simp only[List.getElem?_set_self hlt,h,Option.some.injEq] at this
  exact this
 ·rintro rfl
  rw[←he,List.set_getElem_self]
theorem D4 {p:Prop} (h:p:=by first|rfl|(simp only[AV.gives,AV.ren,AV.give,D.un,D.uns,Ag,Af,List.nil_append,List.append_nil,List.cons_append,AV.frz,AV.frzs,Ai,Al,As,Aq,An,Ar,Ax,Ck,Bq,Ce,Bg,J9,J8];first|done|rfl)):p:=h
theorem AT (k:Kd) (at':UInt16) (x:UInt8) (h:k.okk):Aa Tryz.prog 6 [kdA k,.d (.v (.int .u16 at'.toNat)),cv x.toNat] (fun r=>r=bv true):=by
 have hA:=Oq
 have hF:=Kb k ⟨h.d,h.i,h.s⟩
 have hat:=at'.toNat_lt
 cases hf:O4 k
 ·rw[hf] at hF
  refine acQ 93 Tryz.func6 rfl rfl fun _ _ _=> ?_
  (repeat'((conv=>whnf);first|refine NBr.yes ?_|refine NBr.no ?_|refine NCall.eq hA rfl ?_|refine NCall.eq hF D4 ?_));(all_goals(conv=>whnf))
  all_goals exact NEnd.eq leQ
 rw[hf] at hF
 obtain⟨hm,-,n3,-⟩:=Rz hf
 have hM:=Jo k hm (by omega)
 cases hok:kdW k
 ·rw[hok] at hM
  have hM:Aa Tryz.prog 14 [kdA k] (fun r=>r= .tup [Av,iv 8]):=hM
  refine acQ 93 Tryz.func6 rfl rfl fun _ _ _=> ?_
  (repeat'((conv=>whnf);first|refine NBr.yes ?_|refine NBr.no ?_|refine NCall.eq hA rfl ?_|refine NCall.eq hF D4 ?_|refine NCall.eq hM D4 ?_));(all_goals(conv=>whnf))
  all_goals exact NEnd.eq leQ
 rw[hok] at hM
 have hM:Aa Tryz.prog 14 [kdA k] (fun r=>r= .tup [Au 0 5 (kdE k),iv 0]):=hM
 have hpl:=P4 hok hm
 have hpos:0<(kdE k).length:=kF k
 obtain⟨y,hy⟩:∃y,(kdE k)[at'.toNat%(kdE k).length]?=some y:=⟨_,List.getElem?_eq_getElem (Nat.mod_lt _ hpos)⟩
 have hi:=Nat.mod_lt at'.toNat hpos
 have hPr:=Jn ((kdE k).set (at'.toNat%(kdE k).length) x) (by rw[List.length_set];omega)
 have htwo:=Yw ((kdE k).set (at'.toNat%(kdE k).length) x) (by rw[List.length_set];omega)
 have hxy:=oS (x:=x) hy
 have gl:(((kdE k).length:Int)==0)=false:=by rw[beq_eq_false_iff_ne];omega
 have hbl:((kdE k).set (at'.toNat%(kdE k).length) x).length=(kdE k).length:=List.length_set
 have hxi:((x.toNat:Int)==(y.toNat:Int))=decide (x=y):=by
  rw[Bool.eq_iff_iff,beq_iff_eq,decide_eq_true_eq,←UInt8.toNat_inj];omega
 generalize hb:kdE k=b at hM hpl hpos hy hi hPr htwo hxy gl hbl n3
 generalize hj:at'.toNat%b.length=i at hy hi hPr htwo hxy hbl
 have hrem:((at'.toNat:Int)).tmod (b.length:Int)=(i:Int):=by rw[Int.tmod_eq_emod_of_nonneg (by omega),←hj];rfl
 rcases htwo with⟨w,⟨hw,he⟩,hp⟩|⟨c,o,hc0,ho,hp⟩
 ·have k2:=O3 hw (by rw[←he,List.length_set];omega)
  have hM2:=Jo w k2 (by rw[←he,List.length_set];omega)
  rw[hw,←he] at hM2
  have hM2:Aa Tryz.prog 14 [kdA w] (fun r=>r= .tup [Au 0 5 (b.set i x),iv 0]):=hM2
  have hC:=Uq w k k2.q hm.q
  have hB:=A7 false false (b.set i x) (b.set i x) (by omega) (by omega)
  rw[beq_self_eq_true] at hB
  have hwl:decide (w=k)=decide (x=y):=by
   rw[Bool.eq_iff_iff,decide_eq_true_eq,decide_eq_true_eq,←hxy]
   constructor
   ·rintro rfl;rw[he];exact hb
   ·intro e;exact AK hw hok k2 hm (by rw[←he,hb];exact e)
  rw[hwl] at hC
  rw[hp] at hPr
  have hPr:Aa Tryz.prog 18 [.d (Ac false (b.set i x))] (fun r=>r= .tup [kdQ w,erA 0 0]):=hPr
  refine acX 93 [14] Tryz.func6 rfl rfl fun _ _ _=> ?_
  (repeat'((conv=>whnf);first|refine NBr.neg asQ ?_|refine NBr.yes ?_|refine NBr.no ?_|refine NCall.eq hA rfl ?_|refine NCall.eq hF D4 ?_|refine NStep.callX (hM) (hpos) rfl rfl rfl (ltN rfl) 2000 rfl rfl rfl D4 ?_|refine NStep.go (Sr rfl rfl (ltN rfl) Tryz.underlying22 rfl) ?_|refine NInt.as ((i:Int)) (hrem) ?_|refine NStep.go (Sq i rfl rfl (ltN rfl) Tryz.underlying22 tyB rfl rfl rfl hi) ?_|refine NStep.go (St rfl rfl (ltN rfl) rfl rfl hy) ?_|refine NStep.go (Qk rfl rfl rfl rfl rfl hi) ?_|refine NStep.frz2 7 51 2000 _ (hbl.symm) rfl rfl rfl ?_|refine NStep.call (hPr) rfl rfl (ltN rfl) 4000 rfl rfl rfl D4 ?_|refine NStep.call (hM2) rfl rfl (ltN rfl) 3000 rfl rfl rfl D4 ?_|refine NCall.eq hC D4 ?_|refine NCall.eq hB D4 ?_|(with_reducible refine NInt.i64 ?_)|refine NFact.go (by first|decide|omega|(simp only[List.length_cons,List.length_nil];omega)) ?_));(all_goals(conv=>whnf))
  all_goals(refine NEnd.eq ?_;(repeat'(first|refine And.intro ?_ ?_|exact rfl));(all_goals(conv=>whnf)))
  all_goals(rw[hxi];exact beq_self_eq_true _)
 ·have hne:¬x=y:=fun e=>by
   have h1:=hxy.2 e
   rw[h1,hpl] at hp
   cases hp
  rw[hp] at hPr
  have hPr:Aa Tryz.prog 18 [.d (Ac false (b.set i x))] (fun r=>r= .tup [.agg [bv false,Av,Av,Av],erA c o]):=hPr
  have hC:=Uq kd0 kd0 kG kG
  rw[decide_eq_true rfl] at hC
  unfold kd0 at hC
  have hW:=fT c o (b.set i x).length (fun h=>absurd h hc0) (fun _=>ho)
  have gc:((c:Int) !=0)=true:=by rw[bne_iff_ne];omega
  have gx:((x.toNat:Int) !=(y.toNat:Int))=true:=by rw[bne,hxi,decide_eq_false hne];rfl
  refine acX 93 [14] Tryz.func6 rfl rfl fun _ _ _=> ?_
  (repeat'((conv=>whnf);first|refine NBr.pos asQ ?_|refine NBr.neg asQ ?_|refine NBr.yes ?_|refine NBr.no ?_|refine NCall.eq hA rfl ?_|refine NCall.eq hF D4 ?_|refine NStep.callX (hM) (hpos) rfl rfl rfl (ltN rfl) 2000 rfl rfl rfl D4 ?_|refine NStep.go (Sr rfl rfl (ltN rfl) Tryz.underlying22 rfl) ?_|refine NInt.as ((i:Int)) (hrem) ?_|refine NStep.go (Sq i rfl rfl (ltN rfl) Tryz.underlying22 tyB rfl rfl rfl hi) ?_|refine NStep.go (St rfl rfl (ltN rfl) rfl rfl hy) ?_|refine NStep.go (Qk rfl rfl rfl rfl rfl hi) ?_|refine NStep.frz2 7 51 2000 _ (hbl.symm) rfl rfl rfl ?_|refine NStep.call (hPr) rfl rfl (ltN rfl) 4000 rfl rfl rfl D4 ?_|refine NStep.go (Ze (sz:=1) rfl rfl (ltN rfl) Tryz.underlying22 rfl rfl) ?_|refine NCall.le hC Ux ?_|refine NCall.eq hW rfl ?_|(with_reducible refine NInt.i64 ?_)|refine NFact.go (by first|decide|omega|(simp only[List.length_cons,List.length_nil];omega)) ?_));(all_goals(conv=>whnf))
  all_goals exact NEnd.eq leQ
end Go.Proofs.YtgamacmidohpfaaGreatDoor
