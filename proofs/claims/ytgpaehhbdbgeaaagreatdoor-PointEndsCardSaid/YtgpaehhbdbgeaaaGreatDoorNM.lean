/- NM: the texts LawPE, one behind the other. No condition but what each lemma says. -/
import Derived.Test.YtgpaehhbdbgeaaaGreatDoorNI
namespace Go.Proofs.YtgpaehhbdbgeaaaGreatDoor
open Go.RowKit
set_option maxRecDepth 100000
set_option maxHeartbeats 8000000
theorem Dd {p:Prop} (h:p:=by first|rfl|(simp only[AV.gives,AV.ren,AV.give,D.un,D.uns,Ag,Ai,List.nil_append,List.append_nil,List.cons_append,AV.frz,AV.frzs,Al,A3,Bz,Bd,Aw,Bt,Cd,Ce,Bg,Dk,Bk,G7,Pg];first|done|rfl)):p:=h
theorem wC (k:Pt) (n:UInt16) (more:List UInt8) (h:k.okk) (hb:more.length≤big):Ab Tryz.prog 7 [dpA k,.d (.v (.int .u16 n.toNat)),.d (Ac false more)] (fun r=>r=bv true):=by
 have hA:=Wg
 have hF:=Sc k h
 have hat:=n.toNat_lt
 unfold big at hb
 cases hf:Oq k
 ·rw[hf] at hF
  refine acQ 72 Tryz.func7 rfl rfl fun _ _ _=> ?_
  (repeat'((conv=>whnf);first|refine NBr.yes ?_|refine NBr.no ?_|refine NCall.eq hA rfl ?_|refine NCall.eq hF Dd ?_));(all_goals(conv=>whnf))
  all_goals exact NEnd.eq leQ
 rw[hf] at hF
 by_cases h1:(more.length:Int)>2000
 ·have g1:decide ((more.length:Int)>2000)=true:=decide_eq_true h1
  refine acQ 72 Tryz.func7 rfl rfl fun _ _ _=> ?_
  (repeat'((conv=>whnf);first|refine NBr.pos asQ ?_|refine NBr.no ?_|refine NCall.eq hA rfl ?_|refine NCall.eq hF Dd ?_));(all_goals(conv=>whnf))
  all_goals exact NEnd.eq leQ
 have g1:decide ((more.length:Int)>2000)=false:=decide_eq_false h1
 obtain⟨hm,-,n3,-⟩:=gE hf
 have hM:=Ia k hm h.s
 cases hok:ptW k
 ·rw[hok] at hM
  have hM:Ab Tryz.prog 19 [dpA k] (fun r=>r= .tup [Ay,iv 8]):=hM
  refine acQ 72 Tryz.func7 rfl rfl fun _ _ _=> ?_
  (repeat'((conv=>whnf);first|refine NBr.neg asQ ?_|refine NBr.yes ?_|refine NBr.no ?_|refine NCall.eq hA rfl ?_|refine NCall.eq hF Dd ?_|refine NCall.eq hM Dd ?_));(all_goals(conv=>whnf))
  all_goals exact NEnd.eq leQ
 have hput:=hm.put hok
 rw[hok] at hM
 have hM:Ab Tryz.prog 19 [dpA k] (fun r=>r= .tup [B7 0 5 (ptE k),iv 0]):=hM
 have hpos:0<(ptE k).length:=by have:=gB k;omega
 have hi:=Nat.mod_lt n.toNat hpos
 have gl:(((ptE k).length:Int)==0)=false:=by rw[beq_eq_false_iff_ne];omega
 have hP1:=N1 ((ptE k).take (n.toNat%(ptE k).length)) (by rw[List.length_take];omega)
 obtain⟨c1,o1,hc1,hq1⟩:=zN hm (by omega) hi
 rw[hq1] at hP1
 have hP2:=N1 (ptE k++more) (by rw[List.length_append];omega)
 have hmore:more≠[]→∃c o:Nat,c≠0∧ptP (ptE k++more)=(none,c,o):=vX hm (by omega)
 clear hq1
 generalize hb':ptE k=b at hM hpos hi hP1 hP2 gl hput hmore n3
 generalize hj:n.toNat%b.length=i at hi hP1
 have hrem:((n.toNat:Int)).tmod (b.length:Int)=(i:Int):=by rw[Int.tmod_eq_emod_of_nonneg (by omega),←hj];rfl
 have hP1:Ab Tryz.prog 24 [.d (Ac false (b.take i))] (fun r=>r= .tup [ptZ,erA c1 o1]):=hP1
 have gc1:((c1:Int) !=0)=true:=by rw[bne_iff_ne];omega
 by_cases hme:more=[]
 ·subst hme
  rw[List.append_nil,hput] at hP2
  have hP2:Ab Tryz.prog 24 [.d (Ac false b)] (fun r=>r= .tup [ptQ k,erA 0 0]):=hP2
  refine acQ 72 Tryz.func7 rfl rfl fun _ _ _=> ?_
  (repeat'((conv=>whnf);first|refine NBr.pos asQ ?_|refine NBr.neg asQ ?_|refine NBr.yes ?_|refine NBr.no ?_|refine NCall.eq hA rfl ?_|refine NCall.eq hF Dd ?_|refine NCall.eq hM Dd ?_|refine NInt.as ((i:Int)) (hrem) ?_|refine NSl.upto ((i)) ?_|refine NCall.eq hP1 Dd ?_|refine NCall.eq hP2 Dd ?_|(with_reducible refine NInt.i64 ?_)|(with_reducible refine NApp.bytes ?_)|(with_reducible refine NApp.bytes0 ?_)|refine NFact.go (by first|decide|omega|(simp only[List.length_cons,List.length_nil];omega)) ?_));(all_goals(conv=>whnf))
  all_goals exact NEnd.eq leQ
 ·have hml:0<more.length:=List.length_pos_iff.2 hme
  obtain⟨c2,o2,hc2,hq2⟩:=hmore hme
  rw[hq2] at hP2
  have hP2:Ab Tryz.prog 24 [.d (Ac false (b++more))] (fun r=>r= .tup [ptZ,erA c2 o2]):=hP2
  have gc2:((c2:Int)==0)=false:=by rw[beq_eq_false_iff_ne];omega
  have gm:((more.length:Int)==0)=false:=by rw[beq_eq_false_iff_ne];omega
  refine acQ 72 Tryz.func7 rfl rfl fun _ _ _=> ?_
  (repeat'((conv=>whnf);first|refine NBr.pos asQ ?_|refine NBr.neg asQ ?_|refine NBr.yes ?_|refine NBr.no ?_|refine NCall.eq hA rfl ?_|refine NCall.eq hF Dd ?_|refine NCall.eq hM Dd ?_|refine NInt.as ((i:Int)) (hrem) ?_|refine NSl.upto ((i)) ?_|refine NCall.eq hP1 Dd ?_|refine NCall.eq hP2 Dd ?_|(with_reducible refine NInt.i64 ?_)|(with_reducible refine NApp.bytes ?_)|(with_reducible refine NApp.bytes0 ?_)|refine NFact.go (by first|decide|omega|(simp only[List.length_cons,List.length_nil];omega)) ?_));(all_goals(conv=>whnf))
  all_goals(refine NEnd.eq ?_;(repeat'(first|refine And.intro ?_ ?_|exact rfl));(all_goals(conv=>whnf)))
  all_goals(rw[gc2,gm];rfl)
end Go.Proofs.YtgpaehhbdbgeaaaGreatDoor
