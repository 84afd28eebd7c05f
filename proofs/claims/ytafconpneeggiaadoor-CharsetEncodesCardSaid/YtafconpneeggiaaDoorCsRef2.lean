/- The walks of the reference's Valid, Len and Same. Strings of at most 16777216 bytes. -/
import Derived.Test.YtafconpneeggiaaDoorPoints
import Derived.StillTailTactics
import Derived.BigQuiet
import Derived.Deep.QuietTactic
namespace Go.Proofs.YtafconpneeggiaaDoor
open Go.RowKit
open Go.Lib (validD decodeL)

/-- A character string is valid: the reference's words. -/
def validS (k : Int) (l : List UInt8) : Bool := validD l && !decide (widthS k < 0) && (rns l).all (hasS k)

theorem validS_bad {k : Int} {l : List UInt8} (h : validD l = false) : validS k l = false := by unfold validS; rw [h]; rfl
theorem validS_kind {k : Int} {l : List UInt8} (h : widthS k < 0) : validS k l = false := by unfold validS; simp [h]
theorem validS_char {k : Int} {l : List UInt8} {m : Nat} (h : m < (rns l).length) (hh : hasS k ((rns l).getD m 0) = false) : validS k l = false := by
  have : (rns l).all (hasS k) = false := by
    rw [List.all_eq_false]
    exact ⟨(rns l)[m], List.getElem_mem h, by rw [List.getD_eq_getElem?_getD, List.getElem?_eq_getElem h] at hh; simpa using hh⟩
  unfold validS; rw [this]; simp
theorem validS_yes {k : Int} {l : List UInt8} (h1 : validD l = true) (h2 : ¬ widthS k < 0) (h : ∀ m, m < (rns l).length → hasS k ((rns l).getD m 0) = true) : validS k l = true := by
  have : (rns l).all (hasS k) = true := by
    rw [List.all_eq_true]
    intro x hx
    obtain ⟨m, hm, rfl⟩ := List.getElem_of_mem hx
    have := h m hm
    rwa [List.getD_eq_getElem?_getD, List.getElem?_eq_getElem hm] at this
  unfold validS; rw [this, h1]; simp; omega

theorem rns_small (l : List UInt8) (h : validD l = true) : ∀ m, (rns l).getD m 0 < 1099511627776 := by
  intro m
  by_cases hm : m < (rns l).length
  · rw [List.getD_eq_getElem?_getD, List.getElem?_eq_getElem hm]
    have := rns_scal l h _ (List.getElem_mem hm)
    rw [scal_iff] at this
    simp; omega
  · rw [List.getD_eq_getElem?_getD, List.getElem?_eq_none (by omega)]; simp

theorem cell_below {w w' : World} {a : Addr} {u : Value} (h : w.cell? a = some u) (hb : Below w.heap.size w w') : w'.cell? a = some u := by
  rw [hb.cell (lt_of_cell h)]; exact h
theorem below_drewN {B : Nat} {a w : World} (h : Below B a w) : ∀ q, Below B a (w.drewN q)
  | 0 => h
  | q + 1 => (below_drewN h q).drew

set_option maxRecDepth 100000 in
set_option maxHeartbeats 2000000 in
theorem rValid_any (k : Int) (s : ByteArray) (hs : s.size ≤ 16777216) (w : World) :
    Calls Tryd.prog 11 #[.agg #[.int .i64 k, .string s]] w fun e w' => e = .returned (.bool (validS k s.data.toList)) ∧ Below w.heap.size w w' := by
  obtain ⟨A, hA⟩ : ∃ A, validS k s.data.toList = A := ⟨_, rfl⟩
  rw [hA]
  have HA := Lib.hid hA; clear hA
  rcases Bool.eq_false_or_eq_true (validD s.data.toList) with hv | hv
  rotate_left
  · have HV := Lib.hid hv; clear hv
    go_enter Tryd.func11, Tryd.ntmps11
    go_wp2_with (go_at_call 27; refine (Points_any s hs _).mono ?_; rintro e w' ⟨v, rfl, hrd, hb⟩; rw [HV.out]; clear hrd)
    go_ret
    exact ⟨by rw [← HA.out, validS_bad HV.out]; rfl, ((Below.refl _ _).alloc (Nat.le_refl _) _).trans (hb.mono (by simp))⟩
  · have HV := Lib.hid hv; clear hv
    have hR : ptsR s.data.toList = rns s.data.toList := by unfold ptsR; rw [HV.out, if_pos rfl]
    by_cases hw : widthS k < 0
    · go_enter Tryd.func11, Tryd.ntmps11
      go_wp2_with (first | (go_at_call 27; refine (Points_any s hs _).mono ?_; rintro e w' ⟨v, rfl, hrd, hb⟩; rw [HV.out]; clear hrd; have hk0 : w'.cell? ⟨w.heap.size, 0, none⟩ = some (.int .i64 k) := by rw [hb.cell (by simp)]; simp) | (go_at_call 28; refine (width_any _ _).mono ?_; rintro e w' ⟨rfl, rfl⟩))
      go_ret
      exact ⟨by rw [← HA.out, validS_kind hw]; rfl, ((Below.refl _ _).alloc (Nat.le_refl _) _).trans (hb.mono (by simp))⟩
    · have dw : decide (widthS k < 0) = false := by rw [decide_eq_false_iff_not]; exact hw
      go_enter Tryd.func11, Tryd.ntmps11
      go_wp2_with (first | (go_at_call 27; refine (Points_any s hs _).mono ?_; rintro e w1 ⟨v, rfl, hrd, hb⟩; rw [HV.out]; rw [hR] at hrd; obtain ⟨a, c, rfl, hc1, hc2, hc3, hc4⟩ := hrd; have hk0 : w1.cell? ⟨w.heap.size, 0, none⟩ = some (.int .i64 k) := by rw [hb.cell (by simp)]; simp) | (go_at_call 28; refine (width_any _ _).mono ?_; rintro e w' ⟨rfl, rfl⟩))
      have hb0 : Below w.heap.size w w1 := ((Below.refl _ _).alloc (Nat.le_refl _) _).trans (hb.mono (by simp))
      obtain ⟨n, hn⟩ : ∃ n, (rns s.data.toList).length = n := ⟨_, rfl⟩
      have hH := Lib.hid hc4; clear hc4
      have hnm : (n : Int) ≤ 9223372036854775807 := by unfold maxLen at hc2; omega
      clear hb hR hc3 hw
      rw [hn]
      have Hn := Lib.hid hn; clear hn
      go_loopw [5] (fun i wr => ∃ j : Nat, j ≤ n ∧ i = .int .i64 j ∧ Below w1.heap.size w1 wr ∧ Hid (∀ m, m < j → hasS k ((rns s.data.toList).getD m 0) = true)) (fun i _ => n - (intOf i).toNat)
      case atStart => exact ⟨0, by omega, rfl, Below.refl _ _, fun m hm => absurd hm (Nat.not_lt_zero _)⟩
      case round =>
        obtain ⟨j, hj, rfl, hbr, hall⟩ := hrel
        by_cases hlt : j < n
        · obtain ⟨b, o, rfl, _, hcell⟩ := hH.out j (.int .i64 ((rns s.data.toList).getD j 0 : Nat)) (by rw [List.getElem?_map, List.getD_eq_getElem?_getD, List.getElem?_eq_getElem (by have := Hn.out; omega)]; rfl)
          obtain ⟨x, hx⟩ : ∃ x, (rns s.data.toList).getD j 0 = x := ⟨_, rfl⟩
          rw [hx] at hcell
          have hcell2 := cell_below hcell hbr
          have hxs : x < 1099511627776 := by rw [← hx]; exact rns_small _ HV.out j
          have hxe := Lib.hid hx; clear hx
          have hk1 := cell_below hk0 hbr
          go_wp2
          go_still_tail 6, (by kernel_rfl)
          change wpList _ _ _ _ _ wr.drew
          rcases Bool.eq_false_or_eq_true (hasS k x) with hx | hx
          · have HX := Lib.hid hx; clear hx
            go_wp2_with (go_at_call 29; refine (has_any k x hxs _).mono ?_; rintro e w2 ⟨rfl, hb2⟩; rw [HX.out])
            go_roundw
            case rel => exact ⟨j + 1, by omega, by go_num, hbr.drew.trans (hb2.mono hbr.size), fun m hm => by rcases Nat.lt_or_ge m j with h | h; exact hall.out m h; rw [show m = j from by omega, hxe.out]; exact HX.out⟩
            case measure => simp [intOf]; omega
          · have HX := Lib.hid hx; clear hx
            go_wp2_with (go_at_call 29; refine (has_any k x hxs _).mono ?_; rintro e w2 ⟨rfl, hb2⟩; rw [HX.out])
            go_ret
            exact ⟨by rw [← HA.out, validS_char (m := j) (by have := Hn.out; omega) (by rw [hxe.out]; exact HX.out)]; rfl, hb0.trans ((hbr.drew.trans (hb2.mono hbr.size)).mono hb0.size)⟩
        · have hjn : ¬ (j : Int) < (n : Int) := by omega
          go_wp2
          go_ret
          exact ⟨by rw [← HA.out, validS_yes HV.out (by simpa using dw) fun m hm => hall.out m (by have := Hn.out; omega)]; rfl, hb0.trans (hbr.mono hb0.size)⟩

end Go.Proofs.YtafconpneeggiaaDoor
