/- CharsetKinds: for every input the law answers true and leaves its arguments as they were. Its condition is the row's own: the tables of unicode/utf8 hold what the program's text lays. -/
import Derived.Test.YtafconpneeggiaaDoorLaid
import Derived.Test.YtafconpneeggiaaDoorCards
import Derived.Test.YtafconpneeggiaaDoorTie
import Derived.Test.YtafconpneeggiaaDoorKindsLaw
import Derived.Lib.SmallJoins
import Derived.SevenTiedAt
namespace Go.Proofs.YtafconpneeggiaaDoor
open Go.ChangeShapes Go.WideShapes Go.ChangeAt Go.RowKit Go.Joins
open Go.ChangeMaps (open_string shut_string)

theorem cellsInt : Tryd.prog.cellsOf 3 = 1 := by kernel_rfl
theorem cellsArr : Tryd.prog.cellsOf 28 = 2 := by kernel_rfl
set_option maxRecDepth 100000 in
theorem open_int2 {H : Type} {enc : TypeId × Value → H} {w : World} {r : Reach} {base b0 : Nat} {sp : Nat → Bool} {held : Bool} {v : Value} {d : DataW H} {p : List MemPlace}
    (hv : Value.okWide Tryd.prog w r b0 28 v) (h : DataW.Trod enc Tryd.prog w base sp held 28 v d p) :
    ∃ a b : Int, v = .agg #[.int .i64 a, .int .i64 b] ∧ d = .agg [.lit (.int .i64 a), .lit (.int .i64 b)] ∧ p = [] ∧ (Lit.int .i64 a).wf = true ∧ (Lit.int .i64 b).wf = true := by
  simp only [Value.okWide, Tryd.underlying28] at hv
  obtain ⟨cs, rfl, hsz, -⟩ := hv
  rw [cellsArr] at hsz
  obtain ⟨c0, c1, rfl⟩ := array2 hsz
  obtain ⟨fuel, hf⟩ := h
  obtain ⟨xs, m, rfl, hx, hl, hn, hel⟩ := DataW.trod_array Tryd.underlying28 hf
  rw [cellsInt] at hel
  match xs, hn with
  | [x0, x1], _ =>
    have h0 := hel 0 (by omega)
    have h1 := hel 1 (by omega)
    simp only [Value.cells, List.drop_zero, Nat.zero_mul, Nat.one_mul, List.take_succ_cons, List.take_zero, List.drop_succ_cons, List.getElem?_cons_zero, List.getElem?_cons_succ] at h0 h1
    obtain ⟨a, e0, hd0, w0⟩ := DataW.trod_int Tryd.underlying3 h0
    obtain ⟨b, e1, hd1, w1⟩ := DataW.trod_int Tryd.underlying3 h1
    simp only [List.cons.injEq, and_true] at e0 e1
    subst e0 e1 hd0 hd1
    simp only [Prod.mk.injEq] at hx
    exact ⟨a, b, rfl, by simpa using hx.1, by simpa using hx.2, w0, w1⟩
theorem shut_int2 {H : Type} {enc : TypeId × Value → H} {w : World} {base : Nat} {sp : Nat → Bool} {held : Bool} {a b : Int} (h0 : (Lit.int .i64 a).wf = true) (h1 : (Lit.int .i64 b).wf = true) :
    DataW.Trod enc Tryd.prog w base sp held 28 (.agg #[.int .i64 a, .int .i64 b]) (.agg [.lit (.int .i64 a), .lit (.int .i64 b)]) [] :=
  ⟨2, by simp [DataW.trod, Tryd.underlying28, Tryd.underlying3, cellsInt, cellsArr, Value.cells, h0, h1, List.range_succ]⟩

set_option maxRecDepth 100000 in
set_option maxHeartbeats 1000000 in
theorem lifted (os : Os) (started : os.Started) (H : Type) (enc : TypeId × Value → H) :
    ReturnsInHanded {} Tryd.checked os 4 .any (fun w args => (Rows.charsetKindsSpec.pre enc Tryd.prog Tryd.f4 [] false w args ∧ laidMetH Tryd.prog laid2 w) ∧ sizedMet enc Tryd.prog Tryd.f4 (OpenSpec.ofChange Rows.charsetKindsSpec) false w args)
      (Rows.charsetKindsSpec.post enc Tryd.prog Tryd.f4 false true false false) := by
  refine returnsInHanded_of_change_and (C := Tryd.checked) (X := fun w _ => laidMetH Tryd.prog laid2 w) (fun _ _ _ hh h => h.of_heap hh) own started (by kernel_rfl) Tryd.func4
    (ChangeSpec.witness_shaped (enc := enc) (C := Tryd.checked) (os := os) (X := fun w _ => laidMetH Tryd.prog laid2 w) false (laidWorld os) #[.string ⟨#[]⟩, .agg #[.int .i64 0, .int .i64 0]] 8 rfl (World.shaped_of_RefB (by kernel_rfl) (by kernel_rfl)) (by kernel_rfl) (by kernel_rfl) (by kernel_rfl) (laid_met os _)) ?_
  intro W base args ds gs before hval0 hW _ _ hL _
  have hval : ∀ (j : Nat) t v, Tryd.f4.params[j]? = some t → args[j]? = some v → Value.okWide Tryd.prog W .any base t v := hval0
  have hW' := hW
  obtain ⟨p, q, hA0, hV, rfl, hfz, hnd⟩ := hW
  have hA : DataW.TrodAll enc Tryd.prog W 0 (fun _ => true) true Tryd.f4.params.toList args.toList ds p := hA0
  rw [Tryd.params4] at hA hval
  obtain ⟨v0, v1, d0, d1, p0, p1, rfl, rfl, rfl, h0, h1⟩ := trodAll_two hA
  obtain ⟨rfl, rfl⟩ := trodVars_none hV
  obtain ⟨s0, rfl, rfl, rfl, ws0⟩ := open_string Tryd.underlying9 (hval 0 9 v0 rfl rfl) h0
  obtain ⟨ka1, kb1, rfl, rfl, rfl, wa1, wb1⟩ := open_int2 (hval 1 28 v1 rfl rfl) h1
  have hT := tabs_of_laid hL
  clear hA0 hval0
  simp only [List.append_nil] at hW'
  refine (charsetKinds_walk ka1 kb1 s0 W hT).mono ?_
  rintro e W' ⟨rfl, bel⟩
  refine ⟨_, rfl, _, _, _, [], [], [], hW', ?_, ?_, ?_, bel.frame _, fun h => by cases h⟩
  · exact trodAll_mk1 (shut_bool Tryd.underlying4 true)
  · exact trodAll_mk2 (shut_string Tryd.underlying9 ws0) (shut_int2 wa1 wb1)
  · rfl

theorem charsetKinds_row : Rows.CharsetKindsSaid :=
  OpenClaim.holds_of_wide 4 Tryd.f4 rfl rfl rfl rfl rfl rfl rfl ⟨rfl, rfl, rfl, rfl, rfl⟩ rfl rfl rfl rfl rfl (by kernel_rfl) Tryd.func4 (by kernel_rfl)
    (of_decide_eq_true (by kernel_rfl)) (by unfold Func.isWrapper; first | (rw [if_pos (by decide +kernel)]; kernel_rfl) | (rw [if_neg (by decide +kernel)]; exact ⟨rfl, rfl⟩))
    (fun os started H enc _ => lifted os started H enc)

theorem charsetKinds_holds : Rows.CharsetKindsCardSaid :=
  Claim7.holds_tied_plain_at .later [] [.data, .pinned] true Rows.charsetKindsCard.stood.harness false
    charsetKinds_row (fun _ h => by cases h) (by kernel_rfl) (fun _ h => by cases h) charsetKinds_row_tie rfl ⟨rfl, rfl⟩ (by kernel_rfl) rfl
    (fun f fn hf hfn => by
      obtain rfl : f = 4 := Option.some.inj ((show Tryd.prog.funcNamed "cretula/cretulalaw07.CharsetKinds" = some 4 by kernel_rfl).symm.trans hf) |>.symm
      obtain rfl : fn = Tryd.f4 := (Option.some.inj (Tryd.func4.symm.trans hfn)).symm
      exact ⟨by kernel_rfl, fun j t ht => by
        rw [Tryd.params4] at ht
        have hm : t ∈ [9, 28] := by simpa using Array.mem_of_getElem? ht
        have hall : ([9, 28].all fun u => !Tryd.prog.wantsStandIn u) = true := by kernel_rfl
        exact (show Tryd.prog.wantsStandIn t = false by simpa using List.all_eq_true.1 hall t hm)⟩)
    (by kernel_rfl)
#print axioms charsetKinds_holds
end Go.Proofs.YtafconpneeggiaaDoor
