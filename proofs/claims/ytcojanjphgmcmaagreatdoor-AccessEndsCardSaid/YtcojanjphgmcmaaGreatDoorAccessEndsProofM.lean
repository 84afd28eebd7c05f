/- AccessEnds: for every input the law answers true and leaves its arguments as they were. Its condition is the row's own: the tables of unicode/utf8 hold what the program's text lays. -/
import Derived.Test.YtcojanjphgmcmaaGreatDoorMG
import Derived.Test.YtcojanjphgmcmaaGreatDoorMK
import Derived.Test.YtcojanjphgmcmaaGreatDoorCards
import Derived.Test.YtcojanjphgmcmaaGreatDoorTie
import Derived.Test.YtcojanjphgmcmaaGreatDoorMV
import Derived.Lib.SmallJoins
import Derived.SevenTiedAt
namespace Go.Proofs.YtcojanjphgmcmaaGreatDoor
open Go.ChangeShapes Go.WideShapes Go.ChangeAt Go.RowKit Go.Joins
open Go.ChangeMaps (open_string shut_string)
set_option maxRecDepth 100000 in
set_option maxHeartbeats 1000000 in
theorem lifted (os:Os) (started:os.Started) (H:Type) (enc:TypeId×Value→H):
 ReturnsInHanded {} Tryz.checked os 4 .any (fun w args=>(Rows.accessEndsSpec.pre enc Tryz.prog Tryz.f4 [] false w args∧laidMetH Tryz.prog Dn w)∧sizedMet enc Tryz.prog Tryz.f4 (OpenSpec.ofChange Rows.accessEndsSpec) false w args)
  (Rows.accessEndsSpec.post enc Tryz.prog Tryz.f4 false true false false):=by
 refine H0 (C:=Tryz.checked) (X:=fun w _=>laidMetH Tryz.prog Dn w) (fun _ _ _ hh h=>h.of_heap hh) own started (by kernel_rfl) Tryz.func4
  (ChangeSpec.witness_shaped (enc:=enc) (C:=Tryz.checked) (os:=os) (X:=fun w _=>laidMetH Tryz.prog Dn w) false (World.laidAll Tryz.prog os Dn) #[.slice none 0 0,.int .u16 0,.slice none 0 0] 8 rfl (World.shaped_of_ZipB (by kernel_rfl) (by kernel_rfl)) (by kernel_rfl) (by kernel_rfl) (by kernel_rfl) (Ll os _)) ?_
 intro W base args ds gs before hval0 hW hsh hL
 have hval:∀(j:Nat) t v,Tryz.f4.params[j]?=some t→args[j]?=some v→Value.okWide Tryz.prog W .any base t v:=hval0
 have hW':=hW
 obtain⟨p,q,hA0,hV,rfl,hfz,hnd⟩:=hW
 have hA:DataW.TrodAll enc Tryz.prog W 0 (fun _=>true) true Tryz.f4.params.toList args.toList ds p:=hA0
 rw[Tryz.params4] at hA hval
 obtain⟨v0,v1,v2,d0,d1,d2,p0,p1,p2,rfl,rfl,rfl,h0,h1,h2⟩:=trodAll_three hA
 obtain⟨rfl,rfl⟩:=trodVars_none hV
 obtain⟨a0,k0,r0⟩:=Hc Yg (Hk Tryz.underlying22 (hval 0 22 v0 rfl rfl)) h0
 obtain⟨a1,k1,r1⟩:=Hc sF (Xx Tryz.underlying23 (hval 1 23 v1 rfl rfl)) h1
 obtain⟨a2,k2,r2⟩:=Hc Lm (Hk Tryz.underlying26 (hval 2 26 v2 rfl rfl)) h2
 have hG:=H1 hsh hL
 clear hA0 hval0
 simp only[List.append_nil] at hW'
 refine((AM a0 a1 a2 ⟨k0.1,fun a ha=>⟨(k0.2 a ha).2.ok,(k0.2 a ha).1⟩⟩ k2).2 W (Qz W) (fun _ _=>False) [v0,v1,v2] hG (fun _ _ h=>h) (fun _ _ h=>h.elim) ⟨r0,r1,r2,trivial⟩).mono ?_
 rintro e W' ⟨r,v,rfl,rfl,bel,hr⟩
 obtain rfl:=S8 hr
 refine⟨_,rfl,_,_,_,[],p0++p1++p2,[],hW',?_,?_,?_,bel.frame _,fun h=>by cases h⟩
 ·exact trodAll_mk1 (shut_bool Tryz.underlying4 true)
 ·exact mk3 (He (of_decide_eq_true (by kernel_rfl)) (by kernel_rfl) h0 bel (fun x hx=>hW'.lt x (by simp[hx]))) (He (of_decide_eq_true (by kernel_rfl)) (by kernel_rfl) h1 bel (fun x hx=>hW'.lt x (by simp[hx]))) (He (of_decide_eq_true (by kernel_rfl)) (by kernel_rfl) h2 bel (fun x hx=>hW'.lt x (by simp[hx])))
 ·rfl
theorem accessEnds_row:Rows.AccessEndsSaid:=
 OpenClaim.holds_of_wide 4 Tryz.f4 rfl rfl rfl rfl rfl rfl rfl ⟨rfl,rfl,rfl,rfl,rfl⟩ rfl rfl rfl rfl rfl (by kernel_rfl) Tryz.func4 (by kernel_rfl)
  (of_decide_eq_true (by kernel_rfl)) (by unfold Func.isWrapper;first|(rw[if_pos (by decide+kernel)];kernel_rfl)|(rw[if_neg (by decide+kernel)];exact⟨rfl,rfl⟩))
  (fun os started H enc _=>lifted os started H enc)
theorem accessEnds_holds:Rows.AccessEndsCardSaid:=
 Claim7.holds_tied_plain_at .later [] [.data,.data,.data,.data,.sentinel,.sentinel,.pinned] true Rows.accessEndsCard.stood.harness true
  accessEnds_row (fun _ h=>by cases h) (by kernel_rfl) (fun _ h=>by cases h) accessEnds_row_tie rfl ⟨rfl,rfl⟩ (by kernel_rfl) rfl
  (fun f fn hf hfn=>by
    obtain rfl:f=4:=Option.some.inj ((show Tryz.prog.funcNamed "cretula/cretulalaw20.AccessEnds" =some 4 by kernel_rfl).symm.trans hf)|>.symm
    obtain rfl:fn=Tryz.f4:=(Option.some.inj (Tryz.func4.symm.trans hfn)).symm
    exact⟨by kernel_rfl,fun j t ht=>by
     rw[Tryz.params4] at ht
     have hm:t∈[22,23,26]:=by simpa using Array.mem_of_getElem? ht
     have hall:([22,23,26].all fun u=> !Tryz.prog.wantsStandIn u)=true:=by kernel_rfl
     exact(show Tryz.prog.wantsStandIn t=false by simpa using List.all_eq_true.1 hall t hm)⟩)
  (by kernel_rfl)
#print axioms accessEnds_holds
end Go.Proofs.YtcojanjphgmcmaaGreatDoor
