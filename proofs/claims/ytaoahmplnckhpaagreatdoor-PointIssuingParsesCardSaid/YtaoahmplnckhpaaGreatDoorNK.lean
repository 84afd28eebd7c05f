/- NK: the texts LawPM LawIM, one behind the other. No condition but what each lemma says. -/
import Derived.Test.YtaoahmplnckhpaaGreatDoorNI
namespace Go.Proofs.YtaoahmplnckhpaaGreatDoor
open Go.RowKit
set_option maxRecDepth 100000
set_option maxHeartbeats 8000000
theorem H5 {p:Prop} (h:p:=by first|rfl|(simp only[AV.gives,AV.ren,AV.give,D.un,D.uns,Aj,Am,List.nil_append,List.append_nil,List.cons_append,AV.frz,AV.frzs,Av,A6,Cc,Bn,A8,B5,Cj,B6,Bk,Bw,Bd,Ns,Qq];first|done|rfl)):p:=h
theorem IK:pt0.eqs:=⟨⟨⟨by simp[pt0],fun p hp=>by simp[pt0] at hp⟩,⟨by simp[pt0],fun p hp=>by simp[pt0] at hp⟩⟩,⟨by simp[pt0],fun p hp=>by simp[pt0] at hp⟩⟩
theorem GW (b:List UInt8) (hb:b.length≤big):Ab Tryz.prog 4 [.d (Af false b)] (fun r=>r=bv true):=by
 have hA:=pL
 unfold big at hb
 by_cases h1:(b.length:Int)>3000
 ·have g1:decide ((b.length:Int)>3000)=true:=decide_eq_true h1
  refine acQ 81 Tryz.func4 rfl rfl fun _ _ _=> ?_
  (repeat'((conv=>whnf);first|refine zP ?_|refine Ae ?_|refine Aa hA rfl ?_|exact zE))
 have g1:decide ((b.length:Int)>3000)=false:=decide_eq_false h1
 have hl:b.length≤3000:=by omega
 have hP:=tS b (by omega)
 have hR:=BT b hl
 rcases MC b (by omega) with⟨k,⟨hw,he⟩,ho⟩|⟨c,o,hc0,hof,ho⟩
 ·obtain⟨hm,e1,e2⟩:=tP hw he hl
  rw[e1,if_pos e2] at hR
  rw[ho] at hP
  have hP:Ab Tryz.prog 11 [.d (Af false b)] (fun r=>r= .tup [ptQ k,erA 0 0]):=hP
  have hs:N4 k.s:=bT (Ju.1 hw).2.1
  have hM:=R6 k hm hs
  rw[hw,←he] at hM
  have hM:Ab Tryz.prog 15 [dpA k] (fun r=>r= .tup [A7 0 5 b,iv 0]):=hM
  have hV:=R5 k hm.m hs
  rw[hw] at hV
  have hC:=BJ k k hm.q hm.q
  rw[decide_eq_true rfl] at hC
  have hW:=aO 0 0 b.length (fun _=>rfl) (fun h=>absurd rfl h)
  have hB:=Cz false false b b (by omega) (by omega)
  rw[beq_self_eq_true] at hB
  refine acQ 81 Tryz.func4 rfl rfl fun _ _ _=> ?_
  (repeat'((conv=>whnf);first|refine zN ?_|refine Ac ?_|refine Ae ?_|refine Aa hA rfl ?_|refine Aa hP H5 ?_|refine Aa hR H5 ?_|refine Aa hC H5 ?_|refine Aa hW rfl ?_|refine Aa hM H5 ?_|refine Aa hV H5 ?_|refine Aa hB H5 ?_|exact zE))
 ·rw[BG ho hl,if_neg (by simp)] at hR
  rw[ho] at hP
  have hP:Ab Tryz.prog 11 [.d (Af false b)] (fun r=>r= .tup [ptZ,erA c o]):=hP
  have hC:=BJ pt0 pt0 IK IK
  rw[decide_eq_true rfl] at hC
  unfold pt0 at hC
  have hW:=aO c o b.length (fun h=>absurd h hc0) (fun _=>hof)
  have gc:((c:Int)==0)=false:=by rw[beq_eq_false_iff_ne];omega
  refine acQ 81 Tryz.func4 rfl rfl fun _ _ _=> ?_
  (repeat'((conv=>whnf);first|refine zN ?_|refine Ac ?_|refine Ae ?_|refine Aa hA rfl ?_|refine Aa hP H5 ?_|refine Aa hR H5 ?_|refine Be hC Oo ?_|refine Aa hW rfl ?_|(refine NBr.mk (fun hc=> ?_) (fun hc=> ?_)<;>(have hcP:=hc;(try simp only[zS] at hcP)<;>first|(exfalso;omega)|skip))|exact zE))
theorem H6 {p:Prop} (h:p:=by first|rfl|(simp only[AV.gives,AV.ren,AV.give,D.un,D.uns,Aj,Am,List.nil_append,List.append_nil,List.cons_append,AV.frz,AV.frzs,Av,A6,Cc,Bn,A8,B5,Cj,B6,Bk,Bw,Bd,Ns,Qq];first|done|rfl)):p:=h
theorem IL:nmEq is0.f is0.r:=⟨⟨by simp[is0],fun p hp=>by simp[is0] at hp⟩,⟨by simp[is0],fun p hp=>by simp[is0] at hp⟩⟩
theorem GX (b:List UInt8) (hb:b.length≤big):Ab Tryz.prog 5 [.d (Af false b)] (fun r=>r=bv true):=by
 have hA:=pL
 unfold big at hb
 by_cases h1:(b.length:Int)>3000
 ·have g1:decide ((b.length:Int)>3000)=true:=decide_eq_true h1
  refine acQ 81 Tryz.func5 rfl rfl fun _ _ _=> ?_
  (repeat'((conv=>whnf);first|refine zP ?_|refine Ae ?_|refine Aa hA rfl ?_|exact zE))
 have g1:decide ((b.length:Int)>3000)=false:=decide_eq_false h1
 have hl:b.length≤3000:=by omega
 have hP:=tT b (by omega)
 have hR:=BW b hl
 rcases MD b (by omega) with⟨k,⟨hw,he⟩,ho⟩|⟨c,o,hc0,hof,ho⟩
 ·obtain⟨hm,e1,e2⟩:=tQ hw he hl
  rw[e1,if_pos e2] at hR
  rw[ho] at hP
  have hP:Ab Tryz.prog 18 [.d (Af false b)] (fun r=>r= .tup [isQ k,erA 0 0]):=hP
  have hs:N4 k.s:=bT (Lt.1 hw).2.1
  have hM:=Y7 k hm hs
  rw[hw,←he] at hM
  have hM:Ab Tryz.prog 21 [diA k] (fun r=>r= .tup [A7 0 5 b,iv 0]):=hM
  have hV:=R7 k hm.m hs
  rw[hw] at hV
  have hC:=bV k k hm.m.q hm.m.q
  rw[decide_eq_true rfl] at hC
  have hW:=aO 0 0 b.length (fun _=>rfl) (fun h=>absurd rfl h)
  have hB:=Cz false false b b (by omega) (by omega)
  rw[beq_self_eq_true] at hB
  refine acQ 81 Tryz.func5 rfl rfl fun _ _ _=> ?_
  (repeat'((conv=>whnf);first|refine zN ?_|refine Ac ?_|refine Ae ?_|refine Aa hA rfl ?_|refine Aa hP H6 ?_|refine Aa hR H6 ?_|refine Aa hC H6 ?_|refine Aa hW rfl ?_|refine Aa hM H6 ?_|refine Aa hV H6 ?_|refine Aa hB H6 ?_|exact zE))
 ·rw[BH ho hl,if_neg (by simp)] at hR
  rw[ho] at hP
  have hP:Ab Tryz.prog 18 [.d (Af false b)] (fun r=>r= .tup [isZ,erA c o]):=hP
  have hC:=bV is0 is0 IL IL
  rw[decide_eq_true rfl] at hC
  unfold is0 at hC
  have hW:=aO c o b.length (fun h=>absurd h hc0) (fun _=>hof)
  have gc:((c:Int)==0)=false:=by rw[beq_eq_false_iff_ne];omega
  refine acQ 81 Tryz.func5 rfl rfl fun _ _ _=> ?_
  (repeat'((conv=>whnf);first|refine zN ?_|refine Ac ?_|refine Ae ?_|refine Aa hA rfl ?_|refine Aa hP H6 ?_|refine Aa hR H6 ?_|refine Be hC Oo ?_|refine Aa hW rfl ?_|(refine NBr.mk (fun hc=> ?_) (fun hc=> ?_)<;>(have hcP:=hc;(try simp only[zS] at hcP)<;>first|(exfalso;omega)|skip))|exact zE))
end Go.Proofs.YtaoahmplnckhpaaGreatDoor
