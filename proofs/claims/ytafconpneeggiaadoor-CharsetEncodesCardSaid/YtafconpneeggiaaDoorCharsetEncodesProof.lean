/- CharsetEncodes: for every input the law answers true and leaves its arguments as they were. Its condition is the row's own: the tables of unicode/utf8 hold what the program's text lays. -/
import Derived.Test.YtafconpneeggiaaDoorLaid
import Derived.Test.YtafconpneeggiaaDoorCards
import Derived.Test.YtafconpneeggiaaDoorTie
import Derived.Test.YtafconpneeggiaaDoorEncLaw
import Derived.Lib.SmallJoins
import Derived.SevenTiedAt
namespace Go.Proofs.YtafconpneeggiaaDoor
open Go.ChangeShapes Go.WideShapes Go.ChangeAt Go.RowKit Go.Joins
open Go.ChangeMaps (open_string shut_string)

theorem cellsText : Tryd.prog.cellsOf 23 = 2 := by kernel_rfl

set_option maxRecDepth 100000 in
set_option maxHeartbeats 1000000 in
theorem lifted (os : Os) (started : os.Started) (H : Type) (enc : TypeId × Value → H) :
    ReturnsInHanded {} Tryd.checked os 6 .any (fun w args => (Rows.charsetEncodesSpec.pre enc Tryd.prog Tryd.f6 [] false w args ∧ laidMetH Tryd.prog laid2 w) ∧ sizedMet enc Tryd.prog Tryd.f6 (OpenSpec.ofChange Rows.charsetEncodesSpec) false w args)
      (Rows.charsetEncodesSpec.post enc Tryd.prog Tryd.f6 false true false false) := by
  refine returnsInHanded_of_change_and (C := Tryd.checked) (X := fun w _ => laidMetH Tryd.prog laid2 w) (fun _ _ _ hh h => h.of_heap hh) own started (by kernel_rfl) Tryd.func6
    (ChangeSpec.witness_shaped (enc := enc) (C := Tryd.checked) (os := os) (X := fun w _ => laidMetH Tryd.prog laid2 w) false (laidWorld os) #[.agg #[.int .i64 0, .string ⟨#[]⟩]] 8 rfl (World.shaped_of_RefB (by kernel_rfl) (by kernel_rfl)) (by kernel_rfl) (by kernel_rfl) (by kernel_rfl) (laid_met os _)) ?_
  intro W base args ds gs before hval0 hW _ _ hL _
  have hval : ∀ (j : Nat) t v, Tryd.f6.params[j]? = some t → args[j]? = some v → Value.okWide Tryd.prog W .any base t v := hval0
  have hW' := hW
  obtain ⟨p, q, hA0, hV, rfl, hfz, hnd⟩ := hW
  have hA : DataW.TrodAll enc Tryd.prog W 0 (fun _ => true) true Tryd.f6.params.toList args.toList ds p := hA0
  rw [Tryd.params6] at hA hval
  obtain ⟨v0, d0, rfl, rfl, h0⟩ := trodAll_one hA
  obtain ⟨rfl, rfl⟩ := trodVars_none hV
  obtain ⟨c0, e0, y0, z0, m0, rfl, rfl, rfl, hy0, hz0⟩ := open_agg2 Tryd.underlying23 (by kernel_rfl) cellsText (hval 0 23 v0 rfl rfl) h0
  obtain ⟨k0, ek0, rfl, wk0⟩ := DataW.trod_int Tryd.underlying3 hy0
  obtain ⟨s0, es0, rfl, ws0⟩ := DataW.trod_string Tryd.underlying9 hz0
  simp at ek0 es0
  subst ek0 es0
  have hT := tabs_of_laid hL
  clear hA0 hval0
  simp only [List.append_nil] at hW'
  have read0 : ∀ (W' : World) (sp : Nat → Bool), DataW.Trod enc Tryd.prog W' 0 sp true 23 (.agg #[.int .i64 k0, .string s0]) (.agg [.lit (.int .i64 k0), .lit (.string s0.data.toList)]) [] := fun W' sp =>
    shut_agg2 (y0 := (.lit (.int .i64 k0), [])) (y1 := (.lit (.string s0.data.toList), [])) Tryd.underlying23 (by kernel_rfl) cellsText ⟨1, by simp [DataW.trod, Tryd.underlying3, wk0]⟩ ⟨1, by simp [DataW.trod, Tryd.underlying9, ws0]⟩
  refine (charsetEncodes_walk k0 s0 W hT).mono ?_
  rintro e W' ⟨rfl, bel⟩
  refine ⟨_, rfl, _, _, _, [], [], [], hW', ?_, ?_, ?_, bel.frame _, fun h => by cases h⟩
  · exact trodAll_mk1 (shut_bool Tryd.underlying4 true)
  · exact trodAll_mk1 (read0 _ _)
  · rfl

theorem charsetEncodes_row : Rows.CharsetEncodesSaid :=
  OpenClaim.holds_of_wide 6 Tryd.f6 rfl rfl rfl rfl rfl rfl rfl ⟨rfl, rfl, rfl, rfl, rfl⟩ rfl rfl rfl rfl rfl (by kernel_rfl) Tryd.func6 (by kernel_rfl)
    (of_decide_eq_true (by kernel_rfl)) (by unfold Func.isWrapper; first | (rw [if_pos (by decide +kernel)]; kernel_rfl) | (rw [if_neg (by decide +kernel)]; exact ⟨rfl, rfl⟩))
    (fun os started H enc _ => lifted os started H enc)

theorem charsetEncodes_holds : Rows.CharsetEncodesCardSaid :=
  Claim7.holds_tied_plain_at .later [] [.data, .pinned] true Rows.charsetEncodesCard.stood.harness false
    charsetEncodes_row (fun _ h => by cases h) (by kernel_rfl) (fun _ h => by cases h) charsetEncodes_row_tie rfl ⟨rfl, rfl⟩ (by kernel_rfl) rfl
    (fun f fn hf hfn => by
      obtain rfl : f = 6 := Option.some.inj ((show Tryd.prog.funcNamed "cretula/cretulalaw07.CharsetEncodes" = some 6 by kernel_rfl).symm.trans hf) |>.symm
      obtain rfl : fn = Tryd.f6 := (Option.some.inj (Tryd.func6.symm.trans hfn)).symm
      exact ⟨by kernel_rfl, fun j t ht => by
        rw [Tryd.params6] at ht
        have hm : t ∈ [23] := by simpa using Array.mem_of_getElem? ht
        have hall : ([23].all fun u => !Tryd.prog.wantsStandIn u) = true := by kernel_rfl
        exact (show Tryd.prog.wantsStandIn t = false by simpa using List.all_eq_true.1 hall t hm)⟩)
    (by kernel_rfl)
#print axioms charsetEncodes_holds
end Go.Proofs.YtafconpneeggiaaDoor
