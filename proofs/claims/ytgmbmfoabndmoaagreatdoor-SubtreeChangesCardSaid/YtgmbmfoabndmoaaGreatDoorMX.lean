/- MX: the text LawSC. No condition but what each lemma says. -/
import Derived.Test.YtgmbmfoabndmoaaGreatDoorMW
set_option maxRecDepth 100000
set_option maxHeartbeats 16000000
namespace Go.Proofs.YtgmbmfoabndmoaaGreatDoor
open Go.RowKit
theorem qA {α:Type} {l:List α} {i:Nat} {x y:α} (h:l[i]?=some y):l.set i x=l↔x=y:=by
 obtain⟨hlt,he⟩:=List.getElem?_eq_some_iff.1 h
 constructor
 ·intro e
  have:=congrArg (fun m=>m[i]?) e
  simp only[List.getElem?_set_self hlt,h,Option.some.injEq] at this
  exact this
 ·rintro rfl
  rw[←he,List.set_getElem_self]
theorem D6 {p:Prop} (h:p:=by first|rfl|(simp only[AV.gives,AV.ren,AV.give,D.un,D.uns,Ah,Ai,List.nil_append,List.append_nil,List.cons_append,AV.frz,AV.frzs,Am,Av,Bv,A1,As,Bp,Bx,Cz,By,Ce,Br,Pn,Mt];first|done|rfl)):p:=h
theorem BT (P E:List Gn) (at':UInt16) (x:UInt8) (hP:Xf P) (hE:Xf E):Aa Tryz.prog 5 [sbA P E,.d (.v (.int .u16 at'.toNat)),cv x.toNat] (fun r=>r=bv true):=by
 have hA:=Ow
 have hF:=Lf P E hP hE
 have hat:=at'.toNat_lt
 cases hf:(Ci P&&Ci E)
 ·rw[hf] at hF
  refine acQ 93 Tryz.func5 rfl rfl fun _ _ _=> ?_
  (repeat'((conv=>whnf);first|refine NBr.yes ?_|refine NBr.no ?_|refine NCall.eq hA rfl ?_|refine NCall.eq hF D6 ?_));(all_goals(conv=>whnf))
  all_goals exact NEnd.eq leQ
 rw[hf] at hF
 rw[Bool.and_eq_true] at hf
 obtain⟨hm,n3⟩:=wX hf.1 hf.2
 have hM:=Gk P E hm
 cases hok:sbV P E
 ·rw[hok] at hM
  have hM:Aa Tryz.prog 10 [sbA P E] (fun r=>r= .tup [Ao,iv 8]):=hM
  refine acQ 93 Tryz.func5 rfl rfl fun _ _ _=> ?_
  (repeat'((conv=>whnf);first|refine NBr.yes ?_|refine NBr.no ?_|refine NCall.eq hA rfl ?_|refine NCall.eq hF D6 ?_|refine NCall.eq hM D6 ?_));(all_goals(conv=>whnf))
  all_goals exact NEnd.eq leQ
 rw[hok] at hM
 have hM:Aa Tryz.prog 10 [sbA P E] (fun r=>r= .tup [Aq 0 5 (sbE P E),iv 0]):=hM
 have hpl:=Qo hok hm
 have hpos:0<(sbE P E).length:=by have:=Zr P E;omega
 obtain⟨y,hy⟩:∃y,(sbE P E)[at'.toNat%(sbE P E).length]?=some y:=⟨_,List.getElem?_eq_getElem (Nat.mod_lt _ hpos)⟩
 have hi:=Nat.mod_lt at'.toNat hpos
 have hPr:=He ((sbE P E).set (at'.toNat%(sbE P E).length) x) (by rw[List.length_set];omega)
 have htwo:=Vd ((sbE P E).set (at'.toNat%(sbE P E).length) x) (by rw[List.length_set];omega)
 have hxy:=qA (x:=x) hy
 have gl:(((sbE P E).length:Int)==0)=false:=by rw[beq_eq_false_iff_ne];omega
 have hbl:((sbE P E).set (at'.toNat%(sbE P E).length) x).length=(sbE P E).length:=List.length_set
 have hxi:((x.toNat:Int)==(y.toNat:Int))=decide (x=y):=by
  rw[Bool.eq_iff_iff,beq_iff_eq,decide_eq_true_eq,←UInt8.toNat_inj];omega
 generalize hb:sbE P E=b at hM hpl hpos hy hi hPr htwo hxy gl hbl n3
 generalize hj:at'.toNat%b.length=i at hy hi hPr htwo hxy hbl
 have hrem:((at'.toNat:Int)).tmod (b.length:Int)=(i:Int):=by rw[Int.tmod_eq_emod_of_nonneg (by omega),←hj];rfl
 rcases htwo with⟨Q,F,⟨hw,he⟩,hp⟩|⟨c,o,hc0,ho,hp⟩
 ·simp only at hw he
  have k2:=Po hw (by rw[←he,List.length_set];omega)
  have hM2:=Gk Q F k2
  rw[hw,←he] at hM2
  have hM2:Aa Tryz.prog 10 [sbA Q F] (fun r=>r= .tup [Aq 0 5 (b.set i x),iv 0]):=hM2
  have hC:=H3 Q F P E k2.qq.1 k2.qq.2 hm.qq.1 hm.qq.2
  have hB:=Co false false (b.set i x) (b.set i x) (by omega) (by omega)
  rw[beq_self_eq_true] at hB
  have hwl:decide (Q=P∧F=E)=decide (x=y):=by
   rw[Bool.eq_iff_iff,decide_eq_true_eq,decide_eq_true_eq,←hxy]
   constructor
   ·rintro⟨rfl,rfl⟩;rw[he];exact hb
   ·intro e;exact BP hw hok k2 hm (by rw[←he,hb];exact e)
  rw[hwl] at hC
  rw[hp] at hPr
  have hPr:Aa Tryz.prog 15 [.d (Ac false (b.set i x))] (fun r=>r= .tup [.agg [.d (Gw Q),.d (Gw F)],erA 0 0]):=hPr
  refine acX 93 [10] Tryz.func5 rfl rfl fun _ _ _=> ?_
  (repeat'((conv=>whnf);first|refine NBr.neg asQ ?_|refine NBr.yes ?_|refine NBr.no ?_|refine NCall.eq hA rfl ?_|refine NCall.eq hF D6 ?_|refine NStep.callX (hM) (hpos) rfl rfl rfl (ltN rfl) 2000 rfl rfl rfl D6 ?_|refine NStep.go (Ek rfl rfl (ltN rfl) Tryz.underlying27 rfl) ?_|refine NInt.as ((i:Int)) (hrem) ?_|refine NStep.go (Hm i rfl rfl (ltN rfl) Tryz.underlying27 tyB rfl rfl rfl hi) ?_|refine NStep.go (Hq rfl rfl (ltN rfl) rfl rfl hy) ?_|refine NStep.go (Gt rfl rfl rfl rfl rfl hi) ?_|refine NStep.frz2 7 51 2000 _ (hbl.symm) rfl rfl rfl ?_|refine NStep.call (hPr) rfl rfl (ltN rfl) 4000 rfl rfl rfl D6 ?_|refine NStep.call (hM2) rfl rfl (ltN rfl) 3000 rfl rfl rfl D6 ?_|refine NCall.eq hC D6 ?_|refine NCall.eq hB D6 ?_|(with_reducible refine NInt.i64 ?_)|refine NFact.go (by first|decide|omega|(simp only[List.length_cons,List.length_nil];omega)) ?_));(all_goals(conv=>whnf))
  all_goals(refine NEnd.eq ?_;(repeat'(first|refine And.intro ?_ ?_|exact rfl));(all_goals(conv=>whnf)))
  all_goals(rw[hxi];exact beq_self_eq_true _)
 ·have hne:¬x=y:=fun e=>by
   have h1:=hxy.2 e
   rw[h1,hpl] at hp
   cases hp
  rw[hp] at hPr
  have hPr:Aa Tryz.prog 15 [.d (Ac false (b.set i x))] (fun r=>r= .tup [.agg [Ao,Ao],erA c o]):=hPr
  have q0:([]:List Gn).length≤1000000∧∀p∈([]:List Gn),p.eqs:=⟨by simp,fun p hp=>by cases hp⟩
  have hC:=H3 [] [] [] [] q0 q0 q0 q0
  rw[decide_eq_true ⟨rfl,rfl⟩] at hC
  have hW:=iC c o (b.set i x).length (fun h=>absurd h hc0) (fun _=>ho)
  have gc:((c:Int) !=0)=true:=by rw[bne_iff_ne];omega
  have gx:((x.toNat:Int) !=(y.toNat:Int))=true:=by rw[bne,hxi,decide_eq_false hne];rfl
  refine acX 93 [10] Tryz.func5 rfl rfl fun _ _ _=> ?_
  (repeat'((conv=>whnf);first|refine NBr.pos asQ ?_|refine NBr.neg asQ ?_|refine NBr.yes ?_|refine NBr.no ?_|refine NCall.eq hA rfl ?_|refine NCall.eq hF D6 ?_|refine NStep.callX (hM) (hpos) rfl rfl rfl (ltN rfl) 2000 rfl rfl rfl D6 ?_|refine NStep.go (Ek rfl rfl (ltN rfl) Tryz.underlying27 rfl) ?_|refine NInt.as ((i:Int)) (hrem) ?_|refine NStep.go (Hm i rfl rfl (ltN rfl) Tryz.underlying27 tyB rfl rfl rfl hi) ?_|refine NStep.go (Hq rfl rfl (ltN rfl) rfl rfl hy) ?_|refine NStep.go (Gt rfl rfl rfl rfl rfl hi) ?_|refine NStep.frz2 7 51 2000 _ (hbl.symm) rfl rfl rfl ?_|refine NStep.call (hPr) rfl rfl (ltN rfl) 4000 rfl rfl rfl D6 ?_|refine NStep.go (Gs (sz:=1) rfl rfl (ltN rfl) Tryz.underlying27 rfl rfl) ?_|refine NCall.le hC S6 ?_|refine NCall.eq hW rfl ?_|(with_reducible refine NInt.i64 ?_)|refine NFact.go (by first|decide|omega|(simp only[List.length_cons,List.length_nil];omega)) ?_));(all_goals(conv=>whnf))
  all_goals exact NEnd.eq leQ
end Go.Proofs.YtgmbmfoabndmoaaGreatDoor
