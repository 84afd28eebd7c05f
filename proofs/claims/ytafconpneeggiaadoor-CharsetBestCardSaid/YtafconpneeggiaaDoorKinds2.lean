/- The walk of the reference's Kinds, and of the comparison of two equal lists of numbers. Lists of at most 1000000 numbers. -/
import Derived.Test.YtafconpneeggiaaDoorKinds
import Derived.BigQuiet
import Derived.Deep.QuietTactic
namespace Go.Proofs.YtafconpneeggiaaDoor
open Go.RowKit
open Go.Lib (validD decodeL)

def kindsTo (k : Nat) : List Int := ((List.range k).filter fun i : Nat => decide (0 ≤ widthS (i : Int))).map fun i : Nat => (i : Int)
theorem kindsTo_yes {k : Nat} (h : 0 ≤ widthS (k : Int)) : kindsTo (k + 1) = kindsTo k ++ [(k : Int)] := by
  unfold kindsTo
  rw [List.range_succ, List.filter_append, List.map_append]
  simp [h]
theorem kindsTo_no {k : Nat} (h : ¬ 0 ≤ widthS (k : Int)) : kindsTo (k + 1) = kindsTo k := by
  unfold kindsTo
  rw [List.range_succ, List.filter_append, List.map_append]
  simp; omega
theorem kindsTo_31 : kindsTo 31 = kindsL := by decide
theorem kindsTo_len (k : Nat) : (kindsTo k).length ≤ k := by
  unfold kindsTo
  rw [List.length_map]
  have := List.length_filter_le (fun i : Nat => decide (0 ≤ widthS (i : Int))) (List.range k)
  simpa using this

set_option maxRecDepth 100000 in
set_option maxHeartbeats 4000000 in
theorem rKinds_any (w : World) :
    Calls Tryd.prog 26 #[] w fun e w' => ∃ v, e = .returned v ∧ RdRow (fun _ => True) w' v 7 1 (kindsL.map (Value.int .i64)) ∧ Below w.heap.size w w' := by
  go_enter Tryd.func26, Tryd.ntmps26
  go_wp2
  go_loopw [1, 2] (fun o i wr => ∃ k : Nat, k ≤ 31 ∧ i = .int .i64 k ∧ wr.ownsRow w.heap.size 3 1 o (kindsTo k).length ((kindsTo k).map (Value.int .i64)) ∧ Below w.heap.size w wr)
    (fun _ i _ => 31 - (intOf i).toNat)
  case atStart => exact ⟨0, by omega, rfl, World.ownsRow_nil _ _ _ _, Below.refl _ _⟩
  case round =>
    obtain ⟨k, hk, rfl, hown, hb⟩ := hrel
    by_cases hlt : k < 31
    · have hl := kindsTo_len k
      have hsz := hb.size
      by_cases hw : 0 ≤ widthS (k : Int)
      · have d : decide (0 ≤ widthS (k : Int)) = true := by rw [decide_eq_true_iff]; exact hw
        have HK := Lib.hid (kindsTo_yes hw)
        clear hw
        obtain ⟨W, hW⟩ : ∃ W, widthS (k : Int) = W := ⟨_, rfl⟩
        rw [hW] at d
        have HW := Lib.hid hW; clear hW
        obtain ⟨L, hL⟩ : ∃ L, kindsTo k = L := ⟨_, rfl⟩
        rw [hL] at hown hl
        have HL := Lib.hid hL; clear hL
        go_wp2_with (first | (go_at_call 28; refine (width_any (k : Int) _).mono ?_; rintro e w' ⟨rfl, rfl⟩; rw [HW.out]) | (at_builtin; refine wpList_push rfl _ _ 42 rfl intElem hb hsz hown rfl rfl rfl ?_ ?_ ?_; (unfold maxLen; omega); omega; rintro v3 w3 hown3 hb3 - - - -; clear hown hb))
        go_roundw
        case rel => exact ⟨k + 1, by omega, by go_num, by rw [HK.out, HL.out, List.length_append, List.map_append]; exact hown3, hb3⟩
        case measure => simp [intOf]; omega
      · have d : decide (0 ≤ widthS (k : Int)) = false := by rw [decide_eq_false_iff_not]; exact hw
        have HK := Lib.hid (kindsTo_no hw)
        clear hw
        obtain ⟨W, hW⟩ : ∃ W, widthS (k : Int) = W := ⟨_, rfl⟩
        rw [hW] at d
        have HW := Lib.hid hW; clear hW
        go_wp2_with (go_at_call 28; refine (width_any (k : Int) _).mono ?_; rintro e w' ⟨rfl, rfl⟩; rw [HW.out])
        go_roundw
        case rel => exact ⟨k + 1, by omega, by go_num, by rw [HK.out]; exact hown, hb⟩
        case measure => simp [intOf]; omega
    · have hk31 : k = 31 := by omega
      subst hk31
      have hown2 := hown
      rw [kindsTo_31] at hown2
      have HO := Lib.hid hown2
      clear hown hown2
      go_wp2
      go_ret
      exact ⟨_, rfl, (RdRow.of_owns HO.out).mono fun _ _ _ => trivial, hb⟩

set_option maxRecDepth 100000 in
set_option maxHeartbeats 4000000 in
theorem Ints_eq (S S' : Nat → Prop) (w : World) (va vb : Value) (l : List Int) (n : Nat) (hn : l.length = n) (hs : n ≤ 1000000) (ha : RdRow S w va n 1 (l.map (Value.int .i64))) (hb : RdRow S' w vb n 1 (l.map (Value.int .i64))) :
    Calls Tryd.prog 24 #[va, vb] w fun e w' => e = .returned (.bool true) ∧ Below w.heap.size w w' := by
  obtain ⟨a1, c1, rfl, h1, h2, ⟨h3, h4⟩, h5⟩ := ha
  obtain ⟨a2, c2, rfl, g1, g2, ⟨g3, g4⟩, g5⟩ := hb
  have H5 := Lib.hid h5; have G5 := Lib.hid g5; have HN := Lib.hid hn
  clear h5 g5 hn h3 g3 h4 g4
  go_enter Tryd.func24, Tryd.ntmps24
  go_wp2
  go_loopw [5] (fun i wr => ∃ k : Nat, k ≤ n ∧ i = .int .i64 k ∧ Below w.heap.size w wr) (fun i _ => n - (intOf i).toNat)
  case atStart => exact ⟨0, by omega, rfl, Below.refl _ _⟩
  case round =>
    obtain ⟨k, hk, rfl, hbr⟩ := hrel
    by_cases hlt : k < n
    · obtain ⟨x, hx⟩ : ∃ x : Int, l[k]? = some x := ⟨_, List.getElem?_eq_getElem (by rw [HN.out]; exact hlt)⟩
      obtain ⟨b, o, rfl, _, hc⟩ := H5.out k (.int .i64 x) (by rw [List.getElem?_map, hx]; rfl)
      obtain ⟨b2, o2, rfl, _, hc2⟩ := G5.out k (.int .i64 x) (by rw [List.getElem?_map, hx]; rfl)
      have hd := cell_below hc hbr
      have hd2 := cell_below hc2 hbr
      have d1 : decide ((k : Int) < (n : Int)) = true := by rw [decide_eq_true_iff]; omega
      have d0 : (0 : Int) ≤ (k : Int) := by omega
      have hkn : (k : Int) < (n : Int) := by omega
      have hne : (x != x) = false := by simp
      clear hx hc hc2
      go_wp2
      go_quiet (fail)
      go_wp2
      go_roundw
      case rel => exact ⟨k + 1, by omega, by go_num, below_drewN hbr _⟩
      case measure => simp [intOf]; omega
    · have d1 : decide ((k : Int) < (n : Int)) = false := by rw [decide_eq_false_iff_not]; omega
      have hkn : ¬ (k : Int) < (n : Int) := by omega
      go_wp2
      go_ret
      exact ⟨by simp, hbr⟩

end Go.Proofs.YtafconpneeggiaaDoor
