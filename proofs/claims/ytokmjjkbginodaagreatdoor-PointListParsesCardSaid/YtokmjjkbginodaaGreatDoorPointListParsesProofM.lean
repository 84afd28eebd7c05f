/- PointListParses: for every input the law answers true and leaves its arguments as they were. Its condition is the row's own: the tables of unicode/utf8 hold what the program's text lays. -/
import Derived.Test.YtokmjjkbginodaaGreatDoorCards
import Derived.Test.YtokmjjkbginodaaGreatDoorTie
import Derived.Test.YtokmjjkbginodaaGreatDoorNQ
namespace Go.Proofs.YtokmjjkbginodaaGreatDoor
open Go.ChangeShapes Go.WideShapes Go.ChangeAt Go.RowKit Go.Joins
open Go.ChangeMaps (open_string shut_string)
set_option maxRecDepth 100000 in
set_option maxHeartbeats 1000000 in
theorem lifted (os:Os) (started:os.Started) (H:Type) (enc:TypeId×Value→H):
 ReturnsInHanded {} Tryz.checked os 4 .any (fun w args=>(Rows.pointListParsesSpec.pre enc Tryz.prog Tryz.f4 [] false w args∧laidMetH Tryz.prog Ih w)∧sizedMet enc Tryz.prog Tryz.f4 (OpenSpec.ofChange Rows.pointListParsesSpec) false w args)
  (Rows.pointListParsesSpec.post enc Tryz.prog Tryz.f4 false true false false):=by
 refine U9 (C:=Tryz.checked) (X:=fun w _=>laidMetH Tryz.prog Ih w) (fun _ _ _ hh h=>h.of_heap hh) own started (by kernel_rfl) Tryz.func4
  (ChangeSpec.witness_shaped (enc:=enc) (C:=Tryz.checked) (os:=os) (X:=fun w _=>laidMetH Tryz.prog Ih w) false (World.laidAll Tryz.prog os Ih) #[.slice none 0 0] 8 rfl (World.shaped_of_ZipB (by kernel_rfl) (by kernel_rfl)) (by kernel_rfl) (by kernel_rfl) (by kernel_rfl) (eP os _)) ?_
 intro W base args ds gs before hval0 hW hsh hL
 have hval:∀(j:Nat) t v,Tryz.f4.params[j]?=some t→args[j]?=some v→Value.okWide Tryz.prog W .any base t v:=hval0
 have hW':=hW
 obtain⟨p,q,hA0,hV,rfl,hfz,hnd⟩:=hW
 have hA:DataW.TrodAll enc Tryz.prog W 0 (fun _=>true) true Tryz.f4.params.toList args.toList ds p:=hA0
 rw[Tryz.params4] at hA hval
 obtain⟨v0,d0,rfl,rfl,h0⟩:=trodAll_one hA
 obtain⟨rfl,rfl⟩:=trodVars_none hV
 obtain⟨a0,k0,r0⟩:=oE eR (Yq Tryz.underlying22 (hval 0 22 v0 rfl rfl)) h0
 have hG:=Va hsh hL
 clear hA0 hval0
 simp only[List.append_nil] at hW'
 refine((DS a0 k0).2 W (eQ W) (fun _ _=>False) [v0] hG (fun _ _ h=>h) (fun _ _ h=>h.elim) ⟨r0,trivial⟩).mono ?_
 rintro e W' ⟨r,v,rfl,rfl,bel,hr⟩
 obtain rfl:=zC hr
 refine⟨_,rfl,_,_,_,[],p,[],hW',?_,?_,?_,bel.frame _,fun h=>by cases h⟩
 ·exact trodAll_mk1 (shut_bool Tryz.underlying4 true)
 ·exact trodAll_mk1 (oF (of_decide_eq_true (by kernel_rfl)) (by kernel_rfl) h0 bel (fun x hx=>hW'.lt x hx))
 ·rfl
theorem and_tt {a b:Bool} (h:a=true) (g:b=true):(a&&b)=true:=by rw[h,g];rfl
set_option maxHeartbeats 8000000 in
theorem pointListParses_row:Rows.PointListParsesSaid:=
 OpenClaim.holds_of_wide 4 Tryz.f4 rfl rfl rfl rfl rfl rfl rfl ⟨rfl,rfl,rfl,rfl,rfl⟩ rfl rfl rfl rfl rfl (by kernel_rfl) Tryz.func4 (by unfold joinedFacts;exact(and_tt (and_tt (and_tt (and_tt (and_tt (and_tt (and_tt (and_tt (and_tt (and_tt (and_tt (and_tt (and_tt (and_tt (and_tt (and_tt (and_tt (and_tt (and_tt (and_tt (and_tt (and_tt (and_tt (and_tt (and_tt (and_tt (and_tt (and_tt (and_tt (and_tt (and_tt (by as_aux_lemma=>kernel_rfl) (by as_aux_lemma=>kernel_rfl)) (by as_aux_lemma=>kernel_rfl)) (by as_aux_lemma=>kernel_rfl)) (by as_aux_lemma=>kernel_rfl)) (by as_aux_lemma=>kernel_rfl)) (by as_aux_lemma=>kernel_rfl)) (by as_aux_lemma=>kernel_rfl)) (by as_aux_lemma=>kernel_rfl)) (by as_aux_lemma=>kernel_rfl)) (by as_aux_lemma=>kernel_rfl)) (by as_aux_lemma=>kernel_rfl)) (by as_aux_lemma=>kernel_rfl)) (by as_aux_lemma=>kernel_rfl)) (by as_aux_lemma=>kernel_rfl)) (by as_aux_lemma=>kernel_rfl)) (by as_aux_lemma=>kernel_rfl)) (by as_aux_lemma=>kernel_rfl)) (by as_aux_lemma=>kernel_rfl)) (by as_aux_lemma=>kernel_rfl)) (by as_aux_lemma=>kernel_rfl)) (by as_aux_lemma=>kernel_rfl)) (by as_aux_lemma=>kernel_rfl)) (by as_aux_lemma=>kernel_rfl)) (by as_aux_lemma=>kernel_rfl)) (by as_aux_lemma=>kernel_rfl)) (by as_aux_lemma=>kernel_rfl)) (by as_aux_lemma=>kernel_rfl)) (by as_aux_lemma=>kernel_rfl)) (by as_aux_lemma=>kernel_rfl)) (by as_aux_lemma=>kernel_rfl)) (by as_aux_lemma=>kernel_rfl)))
  (of_decide_eq_true (by kernel_rfl)) (by unfold Func.isWrapper;first|(rw[if_pos (by decide+kernel)];kernel_rfl)|(rw[if_neg (by decide+kernel)];exact⟨rfl,rfl⟩))
  (fun os started H enc _=>lifted os started H enc)
theorem pointListParses_holds:Rows.PointListParsesCardSaid:=
 Claim7.holds_tied_plain_at .later [] [.data,.data,.data,.data,.sentinel,.sentinel,.pinned] true Rows.pointListParsesCard.stood.harness true
  pointListParses_row (fun _ h=>by cases h) (by as_aux_lemma=>kernel_rfl) (fun _ h=>by cases h) pointListParses_row_tie rfl ⟨rfl,rfl⟩ (by as_aux_lemma=>kernel_rfl) rfl
  (fun f fn hf hfn=>by
    obtain rfl:f=4:=Option.some.inj ((show Tryz.prog.funcNamed "cretula/cretulalaw19.PointListParses" =some 4 by kernel_rfl).symm.trans hf)|>.symm
    obtain rfl:fn=Tryz.f4:=(Option.some.inj (Tryz.func4.symm.trans hfn)).symm
    exact⟨by kernel_rfl,fun j t ht=>by
     rw[Tryz.params4] at ht
     have hm:t∈[22]:=by simpa using Array.mem_of_getElem? ht
     have hall:([22].all fun u=> !Tryz.prog.wantsStandIn u)=true:=by kernel_rfl
     exact(show Tryz.prog.wantsStandIn t=false by simpa using List.all_eq_true.1 hall t hm)⟩)
  (by as_aux_lemma=>kernel_rfl)
#print axioms pointListParses_holds
end Go.Proofs.YtokmjjkbginodaaGreatDoor
