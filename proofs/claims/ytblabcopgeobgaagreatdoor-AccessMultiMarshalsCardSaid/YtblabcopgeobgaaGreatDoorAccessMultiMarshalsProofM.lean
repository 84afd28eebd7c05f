/- AccessMultiMarshals: for every input the law answers true and leaves its arguments as they were. Its condition is the row's own: the tables of unicode/utf8 hold what the program's text lays. -/
import Derived.Test.YtblabcopgeobgaaGreatDoorMG
import Derived.Test.YtblabcopgeobgaaGreatDoorMN
import Derived.Test.YtblabcopgeobgaaGreatDoorCards
import Derived.Test.YtblabcopgeobgaaGreatDoorTie
import Derived.Lib.SmallJoins
import Derived.SevenTiedAt
namespace Go.Proofs.YtblabcopgeobgaaGreatDoor
open Go.ChangeShapes Go.WideShapes Go.ChangeAt Go.RowKit Go.Joins
open Go.ChangeMaps (open_string shut_string)
set_option maxRecDepth 100000 in
set_option maxHeartbeats 1000000 in
theorem lifted (os : Os) (started : os.Started) (H : Type) (enc : TypeId × Value → H) :
 ReturnsInHanded {} Tryz.checked os 9 .any (fun w args => (Rows.accessMultiMarshalsSpec.pre enc Tryz.prog Tryz.f9 [] false w args ∧ laidMetH Tryz.prog laidL w) ∧ sizedMet enc Tryz.prog Tryz.f9 (OpenSpec.ofChange Rows.accessMultiMarshalsSpec) false w args)
  (Rows.accessMultiMarshalsSpec.post enc Tryz.prog Tryz.f9 false true false false) := by
 refine rih_sized (C := Tryz.checked) (X := fun w _ => laidMetH Tryz.prog laidL w) (fun _ _ _ hh h => h.of_heap hh) own started (by kernel_rfl) Tryz.func9
  (ChangeSpec.witness_shaped (enc := enc) (C := Tryz.checked) (os := os) (X := fun w _ => laidMetH Tryz.prog laidL w) false (World.laidAll Tryz.prog os laidL) #[.slice none 0 0] 8 rfl (World.shaped_of_ZipB (by kernel_rfl) (by kernel_rfl)) (by kernel_rfl) (by kernel_rfl) (by kernel_rfl) (laid_met os _)) ?_
 intro W base args ds gs before dz gz bz hval0 hW hsh hL hZ hwt
 have hval : ∀ (j : Nat) t v, Tryz.f9.params[j]? = some t → args[j]? = some v → Value.okWide Tryz.prog W .any base t v := hval0
 have hW' := hW
 obtain ⟨p, q, hA0, hV, rfl, hfz, hnd⟩ := hW
 have hA : DataW.TrodAll enc Tryz.prog W 0 (fun _ => true) true Tryz.f9.params.toList args.toList ds p := hA0
 rw [Tryz.params9] at hA hval
 obtain ⟨v0, d0, rfl, rfl, h0⟩ := trodAll_one hA
 obtain ⟨rfl, rfl⟩ := trodVars_none hV
 obtain ⟨pz, qz, hZ0, -, -, -, -⟩ := hZ
 have hZA : DataW.TrodAll enc Tryz.prog W 0 (fun _ => true) true Tryz.f9.params.toList (#[v0] : Array Value).toList dz pz := hZ0
 rw [Tryz.params9] at hZA
 obtain ⟨z0, y0, he, rfl, g0⟩ := trodAll_one hZA
 obtain rfl : v0 = z0 := by simpa using he
 obtain ⟨a0, k0, r0⟩ := arg_oneZ opz_mus (one_slice Tryz.underlying58 (hval 0 58 v0 rfl rfl)) (show DataW.Trod enc Tryz.prog W 0 (fun _ => true) true 58 v0 _ _ from g0) (hwt 0 58 _ (by rw [Tryz.params9]; rfl) rfl)
 have hG := gd_of_laid hsh hL
 clear hA0 hval0
 simp only [List.append_nil] at hW'
 refine ((lawMMar a0 k0).2 W (fpAll W) (fun _ _ => False) [v0] hG (fun _ _ h => h) (fun _ _ h => h.elim) ⟨r0, trivial⟩).mono ?_
 rintro e W' ⟨r, v, rfl, rfl, bel, hr⟩
 obtain rfl := res_bv hr
 refine ⟨_, rfl, _, _, _, [], p, [], hW', ?_, ?_, ?_, bel.frame _, fun h => by cases h⟩
 ·exact trodAll_mk1 (shut_bool Tryz.underlying4 true)
 ·exact trodAll_mk1 (stay_at (of_decide_eq_true (by kernel_rfl)) (by kernel_rfl) h0 bel (fun x hx => hW'.lt x hx))
 ·rfl
theorem accessMultiMarshals_row : Rows.AccessMultiMarshalsSaid :=
 OpenClaim.holds_of_wide 9 Tryz.f9 rfl rfl rfl rfl rfl rfl rfl ⟨rfl, rfl, rfl, rfl, rfl⟩ rfl rfl rfl rfl rfl (by kernel_rfl) Tryz.func9 (by kernel_rfl)
  (of_decide_eq_true (by kernel_rfl)) (by unfold Func.isWrapper; first | (rw [if_pos (by decide +kernel)]; kernel_rfl) | (rw [if_neg (by decide +kernel)]; exact ⟨rfl, rfl⟩))
  (fun os started H enc _ => lifted os started H enc)
theorem accessMultiMarshals_holds : Rows.AccessMultiMarshalsCardSaid :=
 Claim7.holds_tied_plain_at .later [] [.data, .data, .data, .data, .sentinel, .sentinel, .pinned] true Rows.accessMultiMarshalsCard.stood.harness true
  accessMultiMarshals_row (fun _ h => by cases h) (by kernel_rfl) (fun _ h => by cases h) accessMultiMarshals_row_tie rfl ⟨rfl, rfl⟩ (by kernel_rfl) rfl
  (fun f fn hf hfn => by
    obtain rfl : f = 9 := Option.some.inj ((show Tryz.prog.funcNamed "cretula/cretulalaw20.AccessMultiMarshals" = some 9 by kernel_rfl).symm.trans hf) |>.symm
    obtain rfl : fn = Tryz.f9 := (Option.some.inj (Tryz.func9.symm.trans hfn)).symm
    exact ⟨by kernel_rfl, fun j t ht => by
     rw [Tryz.params9] at ht
     have hm : t ∈ [58] := by simpa using Array.mem_of_getElem? ht
     have hall : ([58].all fun u => !Tryz.prog.wantsStandIn u) = true := by kernel_rfl
     exact (show Tryz.prog.wantsStandIn t = false by simpa using List.all_eq_true.1 hall t hm)⟩)
  (by kernel_rfl)
#print axioms accessMultiMarshals_holds
end Go.Proofs.YtblabcopgeobgaaGreatDoor
