/- NL: the texts LawPC LawIC, one behind the other. No condition but what each lemma says. -/
import Derived.Test.YtgpaehhbdbgeaaaGreatDoorNK
import Derived.Test.YtgpaehhbdbgeaaaGreatDoorMC
namespace Go.Proofs.YtgpaehhbdbgeaaaGreatDoor
open Go.RowKit
set_option maxRecDepth 100000
set_option maxHeartbeats 8000000
theorem gG {α:Type} {l:List α} {i:Nat} {x y:α} (h:l[i]?=some y):l.set i x=l↔x=y:=by
 obtain⟨hlt,he⟩:=List.getElem?_eq_some_iff.1 h
 constructor
 ·intro e
  have:=congrArg (fun m=>m[i]?) e
  simp only[List.getElem?_set_self hlt,h,Option.some.injEq] at this
  exact this
 ·rintro rfl
  rw[←he,List.set_getElem_self]
theorem Db {p:Prop} (h:p:=by first|rfl|(simp only[AV.gives,AV.ren,AV.give,D.un,D.uns,Ag,Ai,List.nil_append,List.append_nil,List.cons_append,AV.frz,AV.frzs,Al,A3,Bz,Bd,Aw,Bt,Cd,Ce,Bg,Dk,Bk,G7,Pg];first|done|rfl)):p:=h
theorem wA (k:Pt) (at':UInt16) (x:UInt8) (h:k.okk):Ab Tryz.prog 6 [dpA k,.d (.v (.int .u16 at'.toNat)),cv x.toNat] (fun r=>r=bv true):=by
 have hA:=Wg
 have hF:=Sc k h
 have hat:=at'.toNat_lt
 cases hf:Oq k
 ·rw[hf] at hF
  refine acQ 93 Tryz.func6 rfl rfl fun _ _ _=> ?_
  (repeat'((conv=>whnf);first|refine NBr.yes ?_|refine NBr.no ?_|refine NCall.eq hA rfl ?_|refine NCall.eq hF Db ?_));(all_goals(conv=>whnf))
  all_goals exact NEnd.eq leQ
 rw[hf] at hF
 obtain⟨hm,-,n3,hq⟩:=gE hf
 have hM:=Ia k hm h.s
 cases hok:ptW k
 ·rw[hok] at hM
  have hM:Ab Tryz.prog 19 [dpA k] (fun r=>r= .tup [Ay,iv 8]):=hM
  refine acQ 93 Tryz.func6 rfl rfl fun _ _ _=> ?_
  (repeat'((conv=>whnf);first|refine NBr.yes ?_|refine NBr.no ?_|refine NCall.eq hA rfl ?_|refine NCall.eq hF Db ?_|refine NCall.eq hM Db ?_));(all_goals(conv=>whnf))
  all_goals exact NEnd.eq leQ
 have hpl:=hm.put hok
 rw[hok] at hM
 have hM:Ab Tryz.prog 19 [dpA k] (fun r=>r= .tup [B7 0 5 (ptE k),iv 0]):=hM
 have hpos:0<(ptE k).length:=by have:=gB k;omega
 obtain⟨y,hy⟩:∃y,(ptE k)[at'.toNat%(ptE k).length]?=some y:=⟨_,List.getElem?_eq_getElem (Nat.mod_lt _ hpos)⟩
 have hi:=Nat.mod_lt at'.toNat hpos
 have hPr:=N1 ((ptE k).set (at'.toNat%(ptE k).length) x) (by rw[List.length_set];omega)
 have htwo:=cV ((ptE k).set (at'.toNat%(ptE k).length) x) (by rw[List.length_set];omega)
 have hxy:=gG (x:=x) hy
 have gl:(((ptE k).length:Int)==0)=false:=by rw[beq_eq_false_iff_ne];omega
 have hbl:((ptE k).set (at'.toNat%(ptE k).length) x).length=(ptE k).length:=List.length_set
 have hxi:((x.toNat:Int)==(y.toNat:Int))=decide (x=y):=by
  rw[Bool.eq_iff_iff,beq_iff_eq,decide_eq_true_eq,←UInt8.toNat_inj];omega
 generalize hb:ptE k=b at hM hpl hpos hy hi hPr htwo hxy gl hbl n3
 generalize hj:at'.toNat%b.length=i at hy hi hPr htwo hxy hbl
 have hrem:((at'.toNat:Int)).tmod (b.length:Int)=(i:Int):=by rw[Int.tmod_eq_emod_of_nonneg (by omega),←hj];rfl
 rcases htwo with⟨w,⟨hw,he⟩,hp⟩|⟨c,o,hc0,ho,hp⟩
 ·have k2:=R9 hw (by rw[←he,List.length_set];omega)
  have hM2:=Ia w k2 (V9 (Ki.1 hw).2.1)
  rw[hw,←he] at hM2
  have hM2:Ab Tryz.prog 19 [dpA w] (fun r=>r= .tup [B7 0 5 (b.set i x),iv 0]):=hM2
  have hC:=rJ w k k2.q hq
  have hB:=Dm false false (b.set i x) (b.set i x) (by omega) (by omega)
  rw[beq_self_eq_true] at hB
  have hwl:decide (w=k)=decide (x=y):=by
   rw[Bool.eq_iff_iff,decide_eq_true_eq,decide_eq_true_eq,←hxy]
   constructor
   ·rintro rfl;rw[he];exact hb
   ·intro e;exact vU hw hok k2 hm (by rw[←he,hb];exact e)
  rw[hwl] at hC
  rw[hp] at hPr
  have hPr:Ab Tryz.prog 24 [.d (Ac false (b.set i x))] (fun r=>r= .tup [ptQ w,erA 0 0]):=hPr
  refine acX 93 [19] Tryz.func6 rfl rfl fun _ _ _=> ?_
  (repeat'((conv=>whnf);first|refine NBr.neg asQ ?_|refine NBr.yes ?_|refine NBr.no ?_|refine NCall.eq hA rfl ?_|refine NCall.eq hF Db ?_|refine NStep.callX (hM) (hpos) rfl rfl rfl (ltN rfl) 2000 rfl rfl rfl Db ?_|refine NStep.go (Ik rfl rfl (ltN rfl) Tryz.underlying33 rfl) ?_|refine NInt.as ((i:Int)) (hrem) ?_|refine NStep.go (Ff i rfl rfl (ltN rfl) Tryz.underlying33 tyB rfl rfl rfl hi) ?_|refine NStep.go (Il rfl rfl (ltN rfl) rfl rfl hy) ?_|refine NStep.go (Ee rfl rfl rfl rfl rfl hi) ?_|refine NStep.frz2 7 51 2000 _ (hbl.symm) rfl rfl rfl ?_|refine NStep.call (hPr) rfl rfl (ltN rfl) 4000 rfl rfl rfl Db ?_|refine NStep.call (hM2) rfl rfl (ltN rfl) 3000 rfl rfl rfl Db ?_|refine NCall.eq hC Db ?_|refine NCall.eq hB Db ?_|(with_reducible refine NInt.i64 ?_)|refine NFact.go (by first|decide|omega|(simp only[List.length_cons,List.length_nil];omega)) ?_));(all_goals(conv=>whnf))
  all_goals(refine NEnd.eq ?_;(repeat'(first|refine And.intro ?_ ?_|exact rfl));(all_goals(conv=>whnf)))
  all_goals(rw[hxi];exact beq_self_eq_true _)
 ·have hne:¬x=y:=fun e=>by
   have h1:=hxy.2 e
   rw[h1,hpl] at hp
   cases hp
  rw[hp] at hPr
  have hPr:Ab Tryz.prog 24 [.d (Ac false (b.set i x))] (fun r=>r= .tup [ptZ,erA c o]):=hPr
  have hC:=rJ pt0 pt0 wT wT
  rw[decide_eq_true rfl] at hC
  unfold pt0 at hC
  have hW:=pM c o (b.set i x).length (fun h=>absurd h hc0) (fun _=>ho)
  have gc:((c:Int) !=0)=true:=by rw[bne_iff_ne];omega
  have gx:((x.toNat:Int) !=(y.toNat:Int))=true:=by rw[bne,hxi,decide_eq_false hne];rfl
  refine acX 93 [19] Tryz.func6 rfl rfl fun _ _ _=> ?_
  (repeat'((conv=>whnf);first|refine NBr.pos asQ ?_|refine NBr.neg asQ ?_|refine NBr.yes ?_|refine NBr.no ?_|refine NCall.eq hA rfl ?_|refine NCall.eq hF Db ?_|refine NStep.callX (hM) (hpos) rfl rfl rfl (ltN rfl) 2000 rfl rfl rfl Db ?_|refine NStep.go (Ik rfl rfl (ltN rfl) Tryz.underlying33 rfl) ?_|refine NInt.as ((i:Int)) (hrem) ?_|refine NStep.go (Ff i rfl rfl (ltN rfl) Tryz.underlying33 tyB rfl rfl rfl hi) ?_|refine NStep.go (Il rfl rfl (ltN rfl) rfl rfl hy) ?_|refine NStep.go (Ee rfl rfl rfl rfl rfl hi) ?_|refine NStep.frz2 7 51 2000 _ (hbl.symm) rfl rfl rfl ?_|refine NStep.call (hPr) rfl rfl (ltN rfl) 4000 rfl rfl rfl Db ?_|refine NStep.go (P2 (sz:=1) rfl rfl (ltN rfl) Tryz.underlying33 rfl rfl) ?_|refine NCall.le hC K5 ?_|refine NCall.eq hW rfl ?_|(with_reducible refine NInt.i64 ?_)|refine NFact.go (by first|decide|omega|(simp only[List.length_cons,List.length_nil];omega)) ?_));(all_goals(conv=>whnf))
  all_goals exact NEnd.eq leQ
theorem Dc {p:Prop} (h:p:=by first|rfl|(simp only[AV.gives,AV.ren,AV.give,D.un,D.uns,Ag,Ai,List.nil_append,List.append_nil,List.cons_append,AV.frz,AV.frzs,Al,A3,Bz,Bd,Aw,Bt,Cd,Ce,Bg,Dk,Bk,G7,Pg];first|done|rfl)):p:=h
theorem wB (k:Iss) (at':UInt16) (x:UInt8) (h:k.okk):Ab Tryz.prog 11 [diA k,.d (.v (.int .u16 at'.toNat)),cv x.toNat] (fun r=>r=bv true):=by
 have hA:=Wg
 have hF:=dA k h
 have hat:=at'.toNat_lt
 cases hf:Sa k
 ·rw[hf] at hF
  refine acQ 93 Tryz.func11 rfl rfl fun _ _ _=> ?_
  (repeat'((conv=>whnf);first|refine NBr.yes ?_|refine NBr.no ?_|refine NCall.eq hA rfl ?_|refine NCall.eq hF Dc ?_));(all_goals(conv=>whnf))
  all_goals exact NEnd.eq leQ
 rw[hf] at hF
 obtain⟨hm,-,n3,hq⟩:=vZ hf
 have hM:=Nz k hm h.s
 cases hok:isW k
 ·rw[hok] at hM
  have hM:Ab Tryz.prog 28 [diA k] (fun r=>r= .tup [Ay,iv 8]):=hM
  refine acQ 93 Tryz.func11 rfl rfl fun _ _ _=> ?_
  (repeat'((conv=>whnf);first|refine NBr.yes ?_|refine NBr.no ?_|refine NCall.eq hA rfl ?_|refine NCall.eq hF Dc ?_|refine NCall.eq hM Dc ?_));(all_goals(conv=>whnf))
  all_goals exact NEnd.eq leQ
 have hpl:=hm.put hok
 rw[hok] at hM
 have hM:Ab Tryz.prog 28 [diA k] (fun r=>r= .tup [B7 0 5 (isE k),iv 0]):=hM
 have hpos:0<(isE k).length:=by have:=vW k;omega
 obtain⟨y,hy⟩:∃y,(isE k)[at'.toNat%(isE k).length]?=some y:=⟨_,List.getElem?_eq_getElem (Nat.mod_lt _ hpos)⟩
 have hi:=Nat.mod_lt at'.toNat hpos
 have hPr:=lE ((isE k).set (at'.toNat%(isE k).length) x) (by rw[List.length_set];omega)
 have htwo:=zG ((isE k).set (at'.toNat%(isE k).length) x) (by rw[List.length_set];omega)
 have hxy:=gG (x:=x) hy
 have gl:(((isE k).length:Int)==0)=false:=by rw[beq_eq_false_iff_ne];omega
 have hbl:((isE k).set (at'.toNat%(isE k).length) x).length=(isE k).length:=List.length_set
 have hxi:((x.toNat:Int)==(y.toNat:Int))=decide (x=y):=by
  rw[Bool.eq_iff_iff,beq_iff_eq,decide_eq_true_eq,←UInt8.toNat_inj];omega
 generalize hb:isE k=b at hM hpl hpos hy hi hPr htwo hxy gl hbl n3
 generalize hj:at'.toNat%b.length=i at hy hi hPr htwo hxy hbl
 have hrem:((at'.toNat:Int)).tmod (b.length:Int)=(i:Int):=by rw[Int.tmod_eq_emod_of_nonneg (by omega),←hj];rfl
 rcases htwo with⟨w,⟨hw,he⟩,hp⟩|⟨c,o,hc0,ho,hp⟩
 ·have k2:=rC hw (by rw[←he,List.length_set];omega)
  have hM2:=Nz w k2 (V9 (M0.1 hw).2.1)
  rw[hw,←he] at hM2
  have hM2:Ab Tryz.prog 28 [diA w] (fun r=>r= .tup [B7 0 5 (b.set i x),iv 0]):=hM2
  have hC:=gD w k k2.m.q hq
  have hB:=Dm false false (b.set i x) (b.set i x) (by omega) (by omega)
  rw[beq_self_eq_true] at hB
  have hwl:decide (w=k)=decide (x=y):=by
   rw[Bool.eq_iff_iff,decide_eq_true_eq,decide_eq_true_eq,←hxy]
   constructor
   ·rintro rfl;rw[he];exact hb
   ·intro e;exact vV hw hok k2 hm (by rw[←he,hb];exact e)
  rw[hwl] at hC
  rw[hp] at hPr
  have hPr:Ab Tryz.prog 32 [.d (Ac false (b.set i x))] (fun r=>r= .tup [isQ w,erA 0 0]):=hPr
  refine acX 93 [28] Tryz.func11 rfl rfl fun _ _ _=> ?_
  (repeat'((conv=>whnf);first|refine NBr.neg asQ ?_|refine NBr.yes ?_|refine NBr.no ?_|refine NCall.eq hA rfl ?_|refine NCall.eq hF Dc ?_|refine NStep.callX (hM) (hpos) rfl rfl rfl (ltN rfl) 2000 rfl rfl rfl Dc ?_|refine NStep.go (Ik rfl rfl (ltN rfl) Tryz.underlying33 rfl) ?_|refine NInt.as ((i:Int)) (hrem) ?_|refine NStep.go (Ff i rfl rfl (ltN rfl) Tryz.underlying33 tyB rfl rfl rfl hi) ?_|refine NStep.go (Il rfl rfl (ltN rfl) rfl rfl hy) ?_|refine NStep.go (Ee rfl rfl rfl rfl rfl hi) ?_|refine NStep.frz2 7 51 2000 _ (hbl.symm) rfl rfl rfl ?_|refine NStep.call (hPr) rfl rfl (ltN rfl) 4000 rfl rfl rfl Dc ?_|refine NStep.call (hM2) rfl rfl (ltN rfl) 3000 rfl rfl rfl Dc ?_|refine NCall.eq hC Dc ?_|refine NCall.eq hB Dc ?_|(with_reducible refine NInt.i64 ?_)|refine NFact.go (by first|decide|omega|(simp only[List.length_cons,List.length_nil];omega)) ?_));(all_goals(conv=>whnf))
  all_goals(refine NEnd.eq ?_;(repeat'(first|refine And.intro ?_ ?_|exact rfl));(all_goals(conv=>whnf)))
  all_goals(rw[hxi];exact beq_self_eq_true _)
 ·have hne:¬x=y:=fun e=>by
   have h1:=hxy.2 e
   rw[h1,hpl] at hp
   cases hp
  rw[hp] at hPr
  have hPr:Ab Tryz.prog 32 [.d (Ac false (b.set i x))] (fun r=>r= .tup [isZ,erA c o]):=hPr
  have hC:=gD is0 is0 wU wU
  rw[decide_eq_true rfl] at hC
  unfold is0 at hC
  have hW:=pM c o (b.set i x).length (fun h=>absurd h hc0) (fun _=>ho)
  have gc:((c:Int) !=0)=true:=by rw[bne_iff_ne];omega
  have gx:((x.toNat:Int) !=(y.toNat:Int))=true:=by rw[bne,hxi,decide_eq_false hne];rfl
  refine acX 93 [28] Tryz.func11 rfl rfl fun _ _ _=> ?_
  (repeat'((conv=>whnf);first|refine NBr.pos asQ ?_|refine NBr.neg asQ ?_|refine NBr.yes ?_|refine NBr.no ?_|refine NCall.eq hA rfl ?_|refine NCall.eq hF Dc ?_|refine NStep.callX (hM) (hpos) rfl rfl rfl (ltN rfl) 2000 rfl rfl rfl Dc ?_|refine NStep.go (Ik rfl rfl (ltN rfl) Tryz.underlying33 rfl) ?_|refine NInt.as ((i:Int)) (hrem) ?_|refine NStep.go (Ff i rfl rfl (ltN rfl) Tryz.underlying33 tyB rfl rfl rfl hi) ?_|refine NStep.go (Il rfl rfl (ltN rfl) rfl rfl hy) ?_|refine NStep.go (Ee rfl rfl rfl rfl rfl hi) ?_|refine NStep.frz2 7 51 2000 _ (hbl.symm) rfl rfl rfl ?_|refine NStep.call (hPr) rfl rfl (ltN rfl) 4000 rfl rfl rfl Dc ?_|refine NStep.go (P2 (sz:=1) rfl rfl (ltN rfl) Tryz.underlying33 rfl rfl) ?_|refine NCall.le hC K5 ?_|refine NCall.eq hW rfl ?_|(with_reducible refine NInt.i64 ?_)|refine NFact.go (by first|decide|omega|(simp only[List.length_cons,List.length_nil];omega)) ?_));(all_goals(conv=>whnf))
  all_goals exact NEnd.eq leQ
end Go.Proofs.YtgpaehhbdbgeaaaGreatDoor
