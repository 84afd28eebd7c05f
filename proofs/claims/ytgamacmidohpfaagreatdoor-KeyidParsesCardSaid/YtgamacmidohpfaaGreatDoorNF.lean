/- NF: keyid.Parse where something is left over. No condition but sizes that memory bears. -/
import Derived.Test.YtgamacmidohpfaaGreatDoorMY
set_option maxRecDepth 100000
set_option maxHeartbeats 16000000
namespace Go.Proofs.YtgamacmidohpfaaGreatDoor
open Go.RowKit
theorem kyPar_3 (b:List UInt8) (hb:b.length≤390000) {l l1 l2:List El} (hP:kyH b l) {has:Bool} {id ser:List UInt8} {iss:List Gn} {w:El} {v:List El} (c0:kyA b l has id l1) (c1:kyB b l1 iss l2) (c2:kyC b l2 ser (w::v)):Aa Tryz.prog 18 [.d (Ac false b)] (fun r=>r=kyR (none,3,w.at')):=by
 have hcl:∀a n,((b.drop a).take n).length≤390000:=fun a n=>by rw[List.length_take,List.length_drop];omega
 unfold kyH at hP
 unfold kyA bod at c0
 unfold kyB bod at c1
 unfold kyC bod at c2
 rcases c2 with⟨-,h,-⟩|⟨z,u,rfl,h,rfl,a2⟩|⟨x2,rfl,rfl,a2,v1,v2,gz2⟩
 ·cases h
 all_goals try cases h
 all_goals rcases c1 with⟨rfl,h,rfl⟩|⟨y,s,rfl,h,rfl,a1⟩|⟨x1,rfl,a1,u1,u2,hL⟩
 all_goals try cases h
 all_goals rcases c0 with⟨rfl,h,rfl,rfl⟩|⟨x,r,rfl,h,rfl,rfl,a0⟩|⟨x0,rfl,rfl,rfl,a0,t1,t2⟩
 all_goals try cases h
 all_goals
  refine acQ 127 Tryz.func18 rfl rfl fun _ _ _=> ?_
  (repeat'((conv=>whnf);first|refine NBr.pos asQ ?_|refine NBr.neg asQ ?_|refine NBr.yes ?_|refine NBr.no ?_|refine NCall.eq hP D9 ?_|refine NCall.eq ((Fa _ 2 0 false)) rfl ?_|refine NCall.eq ((Fa _ 2 1 true)) rfl ?_|refine NCall.eq ((Fa _ 2 2 false)) rfl ?_|refine NIdx.tab (fun _=>rfl) rfl ?_|(refine NSl.tab (fun _=>rfl) 1 _ _ (kD _ _) ?_)|refine NSl.slice (x0.body) (x0.stop) ?_|refine NSl.slice (x1.body) (x1.stop) ?_|refine NSl.slice (x2.body) (x2.stop) ?_|refine NCall.eq ((Fi ((b.drop _).take _) (Nat.le_trans (hcl _ _) (by omega)))) D9 ?_|refine NCall.eq ((O6 ((b.drop _).take _) (Nat.le_trans (hcl _ _) (by omega)))) D9 ?_|refine NCall.eq hL D9 ?_|refine NStep.go (Mc rfl rfl (ltN rfl) rfl) ?_|(refine NStep.inl 200 43 _ Cq mixed rfl rfl rfl Tryz.func38 rfl (by kernel_rfl) rfl rfl rfl rfl (fun gh=> ?_))|refine NFact.go ⟨by decide+kernel,by kernel_rfl⟩ ?_|(refine NBr.mk (fun hc=> ?_) (fun hc=> ?_)<;>(have hcP:=hc;(try simp only[List.length_cons,decide_eq_true_eq,decide_eq_false_iff_not] at hcP)<;>first|(exfalso;omega)|skip))));(all_goals(conv=>whnf))
  all_goals exact NEnd.eq leQ
end Go.Proofs.YtgamacmidohpfaaGreatDoor
