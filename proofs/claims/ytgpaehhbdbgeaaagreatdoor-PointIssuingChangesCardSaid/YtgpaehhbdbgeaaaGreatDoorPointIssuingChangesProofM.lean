/- PointIssuingChanges: for every input the law answers true and leaves its arguments as they were. Its condition is the row's own: the tables of unicode/utf8 hold what the program's text lays. -/
import Derived.Test.YtgpaehhbdbgeaaaGreatDoorMG
import Derived.Test.YtgpaehhbdbgeaaaGreatDoorNI
import Derived.Test.YtgpaehhbdbgeaaaGreatDoorCards
import Derived.Test.YtgpaehhbdbgeaaaGreatDoorTie
import Derived.Test.YtgpaehhbdbgeaaaGreatDoorNL
import Derived.Lib.SmallJoins
import Derived.SevenTiedAt
namespace Go.Proofs.YtgpaehhbdbgeaaaGreatDoor
open Go.ChangeShapes Go.WideShapes Go.ChangeAt Go.RowKit Go.Joins
open Go.ChangeMaps (open_string shut_string)
set_option maxRecDepth 100000 in
set_option maxHeartbeats 1000000 in
theorem lifted (os:Os) (started:os.Started) (H:Type) (enc:TypeId×Value→H):
 ReturnsInHanded {} Tryz.checked os 11 .any (fun w args=>(Rows.pointIssuingChangesSpec.pre enc Tryz.prog Tryz.f11 [] false w args∧laidMetH Tryz.prog Eh w)∧sizedMet enc Tryz.prog Tryz.f11 (OpenSpec.ofChange Rows.pointIssuingChangesSpec) false w args)
  (Rows.pointIssuingChangesSpec.post enc Tryz.prog Tryz.f11 false true false false):=by
 refine La (C:=Tryz.checked) (X:=fun w _=>laidMetH Tryz.prog Eh w) (fun _ _ _ hh h=>h.of_heap hh) own started (by kernel_rfl) Tryz.func11
  (ChangeSpec.witness_shaped (enc:=enc) (C:=Tryz.checked) (os:=os) (X:=fun w _=>laidMetH Tryz.prog Eh w) false (World.laidAll Tryz.prog os Eh) #[.agg #[.slice none 0 0,.slice none 0 0,.bool false,.bool false,.bool false,.bool false,.int .i64 0],.int .u16 0,.int .u8 0] 8 rfl (World.shaped_of_ZipB (by kernel_rfl) (by kernel_rfl)) (by kernel_rfl) (by kernel_rfl) (by kernel_rfl) (Ql os _)) ?_
 intro W base args ds gs before hval0 hW hsh hL
 have hval:∀(j:Nat) t v,Tryz.f11.params[j]?=some t→args[j]?=some v→Value.okWide Tryz.prog W .any base t v:=hval0
 have hW':=hW
 obtain⟨p,q,hA0,hV,rfl,hfz,hnd⟩:=hW
 have hA:DataW.TrodAll enc Tryz.prog W 0 (fun _=>true) true Tryz.f11.params.toList args.toList ds p:=hA0
 rw[Tryz.params11] at hA hval
 obtain⟨v0,v1,v2,d0,d1,d2,p0,p1,p2,rfl,rfl,rfl,h0,h1,h2⟩:=trodAll_three hA
 obtain⟨rfl,rfl⟩:=trodVars_none hV
 obtain⟨a0,k0,r0⟩:=U3 zW Tryz.underlying26 (hval 0 26 v0 rfl rfl) h0
 obtain⟨a1,k1,r1⟩:=J6 bM (L9 Tryz.underlying47 (hval 1 47 v1 rfl rfl)) h1
 obtain⟨a2,k2,r2⟩:=J6 oV (L9 Tryz.underlying5 (hval 2 5 v2 rfl rfl)) h2
 have hG:=Lb hsh hL
 clear hA0 hval0
 simp only[List.append_nil] at hW'
 refine((wB a0 a1 a2 k0.okk).2 W (Qo W) (fun _ _=>False) [v0,v1,v2] hG (fun _ _ h=>h) (fun _ _ h=>h.elim) ⟨r0,r1,r2,trivial⟩).mono ?_
 rintro e W' ⟨r,v,rfl,rfl,bel,hr⟩
 obtain rfl:=bH hr
 refine⟨_,rfl,_,_,_,[],p0++p1++p2,[],hW',?_,?_,?_,bel.frame _,fun h=>by cases h⟩
 ·exact trodAll_mk1 (shut_bool Tryz.underlying4 true)
 ·exact mk3 (Ga (of_decide_eq_true (by kernel_rfl)) (by kernel_rfl) h0 bel (fun x hx=>hW'.lt x (by simp[hx]))) (Ga (of_decide_eq_true (by kernel_rfl)) (by kernel_rfl) h1 bel (fun x hx=>hW'.lt x (by simp[hx]))) (Ga (of_decide_eq_true (by kernel_rfl)) (by kernel_rfl) h2 bel (fun x hx=>hW'.lt x (by simp[hx])))
 ·rfl
theorem and_tt {a b:Bool} (h:a=true) (g:b=true):(a&&b)=true:=by rw[h,g];rfl
set_option maxHeartbeats 8000000 in
theorem pointIssuingChanges_row:Rows.PointIssuingChangesSaid:=
 OpenClaim.holds_of_wide 11 Tryz.f11 rfl rfl rfl rfl rfl rfl rfl ⟨rfl,rfl,rfl,rfl,rfl⟩ rfl rfl rfl rfl rfl (by kernel_rfl) Tryz.func11 (by unfold joinedFacts;exact(and_tt (and_tt (and_tt (and_tt (and_tt (and_tt (and_tt (and_tt (and_tt (and_tt (and_tt (and_tt (and_tt (and_tt (and_tt (and_tt (and_tt (and_tt (and_tt (and_tt (and_tt (and_tt (and_tt (and_tt (and_tt (and_tt (and_tt (and_tt (and_tt (and_tt (and_tt (by as_aux_lemma=>kernel_rfl) (by as_aux_lemma=>kernel_rfl)) (by as_aux_lemma=>kernel_rfl)) (by as_aux_lemma=>kernel_rfl)) (by as_aux_lemma=>kernel_rfl)) (by as_aux_lemma=>kernel_rfl)) (by as_aux_lemma=>kernel_rfl)) (by as_aux_lemma=>kernel_rfl)) (by as_aux_lemma=>kernel_rfl)) (by as_aux_lemma=>kernel_rfl)) (by as_aux_lemma=>kernel_rfl)) (by as_aux_lemma=>kernel_rfl)) (by as_aux_lemma=>kernel_rfl)) (by as_aux_lemma=>kernel_rfl)) (by as_aux_lemma=>kernel_rfl)) (by as_aux_lemma=>kernel_rfl)) (by as_aux_lemma=>kernel_rfl)) (by as_aux_lemma=>kernel_rfl)) (by as_aux_lemma=>kernel_rfl)) (by as_aux_lemma=>kernel_rfl)) (by as_aux_lemma=>kernel_rfl)) (by as_aux_lemma=>kernel_rfl)) (by as_aux_lemma=>kernel_rfl)) (by as_aux_lemma=>kernel_rfl)) (by as_aux_lemma=>kernel_rfl)) (by as_aux_lemma=>kernel_rfl)) (by as_aux_lemma=>kernel_rfl)) (by as_aux_lemma=>kernel_rfl)) (by as_aux_lemma=>kernel_rfl)) (by as_aux_lemma=>kernel_rfl)) (by as_aux_lemma=>kernel_rfl)) (by as_aux_lemma=>kernel_rfl)))
  (of_decide_eq_true (by kernel_rfl)) (by unfold Func.isWrapper;first|(rw[if_pos (by decide+kernel)];kernel_rfl)|(rw[if_neg (by decide+kernel)];exact⟨rfl,rfl⟩))
  (fun os started H enc _=>lifted os started H enc)
theorem pointIssuingChanges_holds:Rows.PointIssuingChangesCardSaid:=
 Claim7.holds_tied_plain_at .later [] [.data,.data,.data,.data,.sentinel,.sentinel,.pinned] true Rows.pointIssuingChangesCard.stood.harness true
  pointIssuingChanges_row (fun _ h=>by cases h) (by as_aux_lemma=>kernel_rfl) (fun _ h=>by cases h) pointIssuingChanges_row_tie rfl ⟨rfl,rfl⟩ (by as_aux_lemma=>kernel_rfl) rfl
  (fun f fn hf hfn=>by
    obtain rfl:f=11:=Option.some.inj ((show Tryz.prog.funcNamed "cretula/cretulalaw19.PointIssuingChanges" =some 11 by kernel_rfl).symm.trans hf)|>.symm
    obtain rfl:fn=Tryz.f11:=(Option.some.inj (Tryz.func11.symm.trans hfn)).symm
    exact⟨by kernel_rfl,fun j t ht=>by
     rw[Tryz.params11] at ht
     have hm:t∈[26,47,5]:=by simpa using Array.mem_of_getElem? ht
     have hall:([26,47,5].all fun u=> !Tryz.prog.wantsStandIn u)=true:=by kernel_rfl
     exact(show Tryz.prog.wantsStandIn t=false by simpa using List.all_eq_true.1 hall t hm)⟩)
  (by as_aux_lemma=>kernel_rfl)
#print axioms pointIssuingChanges_holds
end Go.Proofs.YtgpaehhbdbgeaaaGreatDoor
