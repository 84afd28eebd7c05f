/- NJ: the texts KyL2, one behind the other. No condition but what each lemma says. -/
import Derived.Test.YtgamacmidohpfaaGreatDoorND
namespace Go.Proofs.YtgamacmidohpfaaGreatDoor
open Go.RowKit
set_option maxRecDepth 100000
set_option maxHeartbeats 16000000
theorem AR (b:List UInt8) (hb:b.length≤390000) {l l1 l2:List El} (hP:kyH b l) {has:Bool} {id ser:List UInt8} {iss:List Gn} {w:El} {v:List El} (c0:kyA b l has id l1) (c1:kyB b l1 iss l2) (c2:kyC b l2 ser (w::v)):Ab Tryz.prog 18 [.d (Ag false b)] (fun r=>r=kyR (none,3,w.at')):=by
 have hcl:∀a n,((b.drop a).take n).length≤390000:=fun a n=>by rw[Am,Az];omega
 unfold kyH at hP
 unfold kyA bod at c0
 unfold kyB bod at c1
 unfold kyC bod at c2
 rcases c2 with⟨-,h,-⟩|⟨z,u,rfl,h,rfl,a2⟩|⟨x2,rfl,rfl,a2,v1,v2,gz2⟩
 ·cases h
 all_goals try cases h
 all_goals rcases c1 with⟨rfl,h,rfl⟩|⟨y,s,rfl,h,rfl,a1⟩|⟨x1,rfl,a1,u1,u2,hL⟩
 all_goals try cases h
 all_goals rcases c0 with⟨rfl,h,rfl,rfl⟩|⟨x,r,rfl,h,rfl,rfl,a0⟩|⟨x0,rfl,rfl,rfl,a0,t1,t2⟩
 all_goals try cases h
 all_goals
  refine acQ 127 Tryz.func18 rfl rfl fun _ _ _=> ?_
  (repeat'((conv=>whnf);first|refine zP ?_|refine zN ?_|refine Ac ?_|refine Af ?_|refine Aa hP Dz ?_|refine Aa ((Ez _ 2 0 false)) rfl ?_|refine Aa ((Ez _ 2 1 true)) rfl ?_|refine Aa ((Ez _ 2 2 false)) rfl ?_|refine NIdx.tab (fun _=>rfl) rfl ?_|(refine NSl.tab (fun _=>rfl) 1 _ _ (cK _ _) ?_)|refine NSl.slice (x0.body) (x0.stop) ?_|refine NSl.slice (x1.body) (x1.stop) ?_|refine NSl.slice (x2.body) (x2.stop) ?_|refine Aa ((Fj ((b.drop _).take _) (Nat.le_trans (hcl _ _) (by omega)))) Dz ?_|refine Aa ((Mg ((b.drop _).take _) (Nat.le_trans (hcl _ _) (by omega)))) Dz ?_|refine Aa hL Dz ?_|refine An (Kf rfl rfl (ltN rfl) rfl) ?_|(refine NStep.inl 200 43 _ C5 mixed rfl rfl rfl Tryz.func38 rfl (by kernel_rfl) rfl rfl rfl rfl (fun gh=> ?_))|refine zF ?_|(refine NBr.mk (fun hc=> ?_) (fun hc=> ?_)<;>(have hcP:=hc;(try simp only[zS] at hcP)<;>first|(exfalso;omega)|skip))|exact zE))
end Go.Proofs.YtgamacmidohpfaaGreatDoor
