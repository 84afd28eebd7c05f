/- The walks of charset's Len and the reference's Len: how many characters. Strings of at most 16777216 bytes. -/
import Derived.Test.YtafconpneeggiaaDoorEncode
namespace Go.Proofs.YtafconpneeggiaaDoor
open Go.RowKit
open Go.Lib (validD decodeL)

/-- How many characters. -/
def lenS (k : Int) (l : List UInt8) : Int := if validS k l then ((rns l).length : Int) else 0

theorem count_rns (s : ByteArray) : ∀ fuel pos, s.size ≤ pos + fuel → Lib.runeCountFrom s fuel pos = (rns (s.data.toList.drop pos)).length := by
  have hl : s.data.toList.length = s.size := by rw [Array.length_toList]; rfl
  intro fuel
  induction fuel with
  | zero =>
    intro pos h
    rw [List.drop_eq_nil_of_le (by omega)]
    rfl
  | succ n ih =>
    intro pos h
    unfold Lib.runeCountFrom
    by_cases hp : pos < s.size
    · have hne : s.data.toList.drop pos ≠ [] := by
        intro e
        have := congrArg List.length e
        rw [List.length_drop] at this
        simp at this
        have h2 : s.size = s.data.size := rfl
        omega
      have hd := decode_drop s pos
      have hpos := decodeL_pos _ hne
      rw [if_pos hp, hd, ih _ (by omega), rns_step _ hne, List.drop_drop, List.length_cons]
      omega
    · rw [if_neg hp, List.drop_eq_nil_of_le (by omega)]
      rfl
theorem count_len (s : ByteArray) : Lib.runeCount s = (rns s.data.toList).length := by
  have := count_rns s s.size 0 (by omega)
  simpa [Lib.runeCount] using this

set_option maxRecDepth 100000 in
set_option maxHeartbeats 4000000 in
theorem len_any (k : Int) (s : ByteArray) (hs : s.size ≤ 16777216) (w : World) (hT : Lib.Utf8Tabs 0 1 w) :
    Calls Tryd.prog 12 #[.agg #[.int .i64 k, .string s]] w fun e w' => e = .returned (.int .i64 (lenS k s.data.toList)) ∧ Below w.heap.size w w' := by
  have HT := Lib.hid hT; clear hT
  obtain ⟨L, hL⟩ : ∃ L, lenS k s.data.toList = L := ⟨_, rfl⟩
  rw [hL]
  have HL := Lib.hid hL; clear hL
  rcases Bool.eq_false_or_eq_true (validS k s.data.toList) with hv | hv
  · have HV := Lib.hid hv; clear hv
    obtain ⟨C, hC⟩ : ∃ C : Nat, Lib.runeCount s = C := ⟨_, rfl⟩
    have HC := Lib.hid hC; clear hC
    go_enter Tryd.func12, Tryd.ntmps12
    go_wp2_with (first | (go_at_call 18; refine (valid_any k s hs _ (Utf8Tabs_below HT.out ((Below.refl _ _).alloc (Nat.le_refl _) _))).mono ?_; rintro e w1 ⟨rfl, hb⟩; rw [HV.out]; have hc1 : w1.cell? ⟨w.heap.size, 1, none⟩ = some (.string s) := by { rw [hb.cell (by simp)]; simp }) | (go_at_call 30; refine (Tryd.utf8_RuneCountInString s _ (by omega)).mono ?_; rintro e w2 ⟨rfl, pos, rfl⟩; rw [HC.out]))
    go_ret
    exact ⟨by rw [← HL.out]; unfold lenS; rw [HV.out, if_pos rfl, ← count_len, HC.out]; rfl, (((Below.refl _ _).alloc (Nat.le_refl _) _).trans (hb.mono (by simp))).alloc (by have := hb.size; simp at this; omega) _⟩
  · have HV := Lib.hid hv; clear hv
    go_enter Tryd.func12, Tryd.ntmps12
    go_wp2_with (go_at_call 18; refine (valid_any k s hs _ (Utf8Tabs_below HT.out ((Below.refl _ _).alloc (Nat.le_refl _) _))).mono ?_; rintro e w1 ⟨rfl, hb⟩; rw [HV.out])
    go_ret
    exact ⟨by rw [← HL.out]; unfold lenS; rw [HV.out]; rfl, ((Below.refl _ _).alloc (Nat.le_refl _) _).trans (hb.mono (by simp))⟩

set_option maxRecDepth 100000 in
set_option maxHeartbeats 4000000 in
theorem rLen_any (k : Int) (s : ByteArray) (hs : s.size ≤ 16777216) (w : World) :
    Calls Tryd.prog 19 #[.agg #[.int .i64 k, .string s]] w fun e w' => e = .returned (.int .i64 (lenS k s.data.toList)) ∧ Below w.heap.size w w' := by
  obtain ⟨L, hL⟩ : ∃ L, lenS k s.data.toList = L := ⟨_, rfl⟩
  rw [hL]
  have HL := Lib.hid hL; clear hL
  rcases Bool.eq_false_or_eq_true (validS k s.data.toList) with hv | hv
  · have hvD : validD s.data.toList = true := by have h := hv; unfold validS at h; simp at h; exact h.1.1
    have hR : ptsR s.data.toList = rns s.data.toList := by unfold ptsR; rw [hvD, if_pos rfl]
    have HR := Lib.hid hR; clear hR hvD
    have HV := Lib.hid hv; clear hv
    obtain ⟨C, hC⟩ : ∃ C : Nat, (rns s.data.toList).length = C := ⟨_, rfl⟩
    have HC := Lib.hid hC; clear hC
    go_enter Tryd.func19, Tryd.ntmps19
    go_wp2_with (first | (go_at_call 11; refine (rValid_any k s hs _).mono ?_; rintro e w1 ⟨rfl, hb⟩; rw [HV.out]; have hc1 : w1.cell? ⟨w.heap.size, 1, none⟩ = some (.string s) := by { rw [hb.cell (by simp)]; simp }) | (go_at_call 27; refine (Points_any s hs _).mono ?_; rintro e w2 ⟨v, rfl, hrd, hb2⟩; rw [HR.out] at hrd; obtain ⟨a, c, rfl, -⟩ := hrd; rw [HC.out]))
    go_ret
    exact ⟨by rw [← HL.out]; unfold lenS; rw [HV.out, if_pos rfl, HC.out]; rfl, (((Below.refl _ _).alloc (Nat.le_refl _) _).trans (hb.mono (by simp))).trans (hb2.mono (by have := hb.size; simp at this; omega))⟩
  · have HV := Lib.hid hv; clear hv
    go_enter Tryd.func19, Tryd.ntmps19
    go_wp2_with (go_at_call 11; refine (rValid_any k s hs _).mono ?_; rintro e w1 ⟨rfl, hb⟩; rw [HV.out])
    go_ret
    exact ⟨by rw [← HL.out]; unfold lenS; rw [HV.out]; rfl, ((Below.refl _ _).alloc (Nat.le_refl _) _).trans (hb.mono (by simp))⟩

end Go.Proofs.YtafconpneeggiaaDoor
