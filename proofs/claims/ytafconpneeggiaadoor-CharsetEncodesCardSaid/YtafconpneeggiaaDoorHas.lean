/- The walk of the reference test of characters (has): what it answers at any kind and code point. No condition but that the code point is small. -/
import Derived.Test.YtafconpneeggiaaDoorCsRef
namespace Go.Proofs.YtafconpneeggiaaDoor
open Go.RowKit
def oth : List Nat := [32, 39, 40, 41, 43, 44, 45, 46, 47, 58, 61, 63]
def prn (x : Nat) : Bool := decide ((48 ≤ x ∧ x < 58) ∨ (65 ≤ x ∧ x < 91) ∨ (97 ≤ x ∧ x < 123)) || oth.contains x
/-- Is a code point a character of a kind? -/
def hasS (k : Int) (x : Nat) : Bool :=
  if k = 12 ∨ k = 28 then scal x else if k = 30 then scal x && decide (x < 65536) else if k = 22 then decide (x < 128)
  else if k = 26 then decide (32 ≤ x ∧ x < 127) else if k = 20 then decide ((32 ≤ x ∧ x < 127) ∨ (160 ≤ x ∧ x < 256))
  else if k = 19 then prn x else false
theorem octs_len_yes (x : Nat) (h : scal x = true) : ∃ m, (octs x).length = m + 1 := by
  have := (enc_len x).1
  unfold octs; rw [if_pos h]
  exact ⟨(enc x).length - 1, by omega⟩
theorem Octets_yes (x : Nat) (hx : x < 1099511627776) (hs : scal x = true) (w : World) :
    Calls Tryd.prog 35 #[.int .i64 x] w fun e w' => ∃ a m c, e = .returned (.slice a (m + 1) c) ∧ Below w.heap.size w w' :=
  (Octets_any x hx w).mono fun e w' ⟨v, he, ⟨a, c, hv, _⟩, hb⟩ => by
    obtain ⟨m, hm⟩ := octs_len_yes x hs
    rw [hm] at hv
    exact ⟨a, m, c, by rw [he, hv], hb⟩
theorem Octets_no (x : Nat) (hx : x < 1099511627776) (hs : scal x = false) (w : World) :
    Calls Tryd.prog 35 #[.int .i64 x] w fun e w' => ∃ a c, e = .returned (.slice a 0 c) ∧ Below w.heap.size w w' :=
  (Octets_any x hx w).mono fun e w' ⟨v, he, ⟨a, c, hv, _⟩, hb⟩ => by
    have : (octs x).length = 0 := by unfold octs; rw [if_neg (by simp [hs])]; rfl
    rw [this] at hv
    exact ⟨a, c, by rw [he, hv], hb⟩
theorem oth_val (j : Nat) (h : j < 12) : (({ data := #[32, 39, 40, 41, 43, 44, 45, 46, 47, 58, 61, 63] } : ByteArray)[j]'h).toNat = oth.getD j 0 := by
  have : ∀ j : Fin 12, (({ data := #[32, 39, 40, 41, 43, 44, 45, 46, 47, 58, 61, 63] } : ByteArray)[j.val]'j.2).toNat = oth.getD j.val 0 := by decide
  exact this ⟨j, h⟩
theorem oth_hit (j : Nat) (h : j < 12) (x : Nat) (ht : (wrap64 (({ data := #[32, 39, 40, 41, 43, 44, 45, 46, 47, 58, 61, 63] } : ByteArray)[j]'h).toNat == (x : Int)) = true) : oth.getD j 0 = x := by
  rw [beq_iff_eq, wrap64_byte, oth_val j h] at ht
  omega
theorem oth_miss (j : Nat) (h : j < 12) (x : Nat) (ht : (wrap64 (({ data := #[32, 39, 40, 41, 43, 44, 45, 46, 47, 58, 61, 63] } : ByteArray)[j]'h).toNat == (x : Int)) = false) : oth.getD j 0 ≠ x := by
  rw [beq_eq_false_iff_ne, wrap64_byte, oth_val j h] at ht
  omega
theorem oth_mem (j : Nat) (h : j < 12) (x : Nat) (e : oth.getD j 0 = x) : x ∈ oth := by
  rw [← e, List.getD_eq_getElem?_getD, List.getElem?_eq_getElem (show j < oth.length from h)]
  exact List.getElem_mem _
theorem oth_more (j : Nat) (x : Nat) (hn : ∀ m, m < j → oth.getD m 0 ≠ x) (h : oth.getD j 0 ≠ x) : ∀ m, m < j + 1 → oth.getD m 0 ≠ x := fun m hm => by
  by_cases e : m = j
  · rw [e]; exact h
  · exact hn m (by omega)
theorem oth_none (x : Nat) (hn : ∀ m, m < 12 → oth.getD m 0 ≠ x) : x ∉ oth := by
  intro hm
  obtain ⟨m, hm, e⟩ := List.getElem_of_mem hm
  apply hn m hm
  rw [List.getD_eq_getElem?_getD, List.getElem?_eq_getElem hm]
  exact e

set_option maxRecDepth 100000 in
set_option maxHeartbeats 4000000 in
theorem has_any (k : Int) (x : Nat) (hx : x < 1099511627776) (w : World) :
    Calls Tryd.prog 29 #[.int .i64 k, .int .i64 x] w fun e w' => e = .returned (.bool (hasS k x)) ∧ Below w.heap.size w w' := by
  by_cases c12 : k = 12
  · subst c12
    rcases Bool.eq_false_or_eq_true (scal x) with hs | hs
    · go_enter Tryd.func29, Tryd.ntmps29
      go_wp2_with (go_at_call 35; refine (Octets_yes _ hx hs _).mono ?_; rintro e w' ⟨a, m, c, rfl, hb⟩)
      go_ret
      exact ⟨by unfold hasS; simp [hs]; try omega, hb⟩
    · go_enter Tryd.func29, Tryd.ntmps29
      go_wp2_with (go_at_call 35; refine (Octets_no _ hx hs _).mono ?_; rintro e w' ⟨a, c, rfl, hb⟩)
      go_ret
      exact ⟨by unfold hasS; simp [hs], hb⟩
  by_cases c28 : k = 28
  · subst c28
    rcases Bool.eq_false_or_eq_true (scal x) with hs | hs
    · go_enter Tryd.func29, Tryd.ntmps29
      go_wp2_with (go_at_call 35; refine (Octets_yes _ hx hs _).mono ?_; rintro e w' ⟨a, m, c, rfl, hb⟩)
      go_ret
      exact ⟨by unfold hasS; simp [hs]; try omega, hb⟩
    · go_enter Tryd.func29, Tryd.ntmps29
      go_wp2_with (go_at_call 35; refine (Octets_no _ hx hs _).mono ?_; rintro e w' ⟨a, c, rfl, hb⟩)
      go_ret
      exact ⟨by unfold hasS; simp [hs], hb⟩
  by_cases c30 : k = 30
  · subst c30
    rcases (by omega : (0 ≤ x ∧ x < 65536) ∨ (65536 ≤ x)) with ⟨h, h'⟩ | h
    · have d0 : decide ((x : Int) < 65536) = true := by simp; omega
      rcases Bool.eq_false_or_eq_true (scal x) with hs | hs
      · go_enter Tryd.func29, Tryd.ntmps29
        go_wp2_with (go_at_call 35; refine (Octets_yes _ hx hs _).mono ?_; rintro e w' ⟨a, m, c, rfl, hb⟩)
        go_ret
        exact ⟨by unfold hasS; simp [hs]; omega, hb⟩
      · go_enter Tryd.func29, Tryd.ntmps29
        go_wp2_with (go_at_call 35; refine (Octets_no _ hx hs _).mono ?_; rintro e w' ⟨a, c, rfl, hb⟩)
        go_ret
        exact ⟨by unfold hasS; simp [hs], hb⟩
    · have d0 : decide ((x : Int) < 65536) = false := by simp; omega
      rcases Bool.eq_false_or_eq_true (scal x) with hs | hs
      · go_enter Tryd.func29, Tryd.ntmps29
        go_wp2_with (go_at_call 35; refine (Octets_yes _ hx hs _).mono ?_; rintro e w' ⟨a, m, c, rfl, hb⟩)
        go_ret
        exact ⟨by unfold hasS; simp [hs]; omega, hb⟩
      · go_enter Tryd.func29, Tryd.ntmps29
        go_wp2_with (go_at_call 35; refine (Octets_no _ hx hs _).mono ?_; rintro e w' ⟨a, c, rfl, hb⟩)
        go_ret
        exact ⟨by unfold hasS; simp [hs], hb⟩
  by_cases c22 : k = 22
  · subst c22
    rcases (by omega : (0 ≤ x ∧ x < 128) ∨ (128 ≤ x)) with ⟨h, h'⟩ | h
    · have d0 : decide ((0 : Int) ≤ x) = true := by rw [decide_eq_true_iff]; omega
      have d1 : decide ((x : Int) < 128) = true := by rw [decide_eq_true_iff]; omega
      go_enter Tryd.func29, Tryd.ntmps29
      go_wp2
      go_ret
      exact ⟨by unfold hasS; simp <;> omega, Below.refl _ _⟩
    · have d0 : decide ((0 : Int) ≤ x) = true := by rw [decide_eq_true_iff]; omega
      have d1 : decide ((x : Int) < 128) = false := by rw [decide_eq_false_iff_not]; omega
      go_enter Tryd.func29, Tryd.ntmps29
      go_wp2
      go_ret
      exact ⟨by unfold hasS; simp <;> omega, Below.refl _ _⟩
  by_cases c26 : k = 26
  · subst c26
    rcases (by omega : (0 ≤ x ∧ x < 32) ∨ (32 ≤ x ∧ x < 127) ∨ (127 ≤ x)) with ⟨h, h'⟩ | ⟨h, h'⟩ | h
    · have d0 : decide ((32 : Int) ≤ x) = false := by rw [decide_eq_false_iff_not]; omega
      have d1 : decide ((x : Int) < 127) = true := by rw [decide_eq_true_iff]; omega
      go_enter Tryd.func29, Tryd.ntmps29
      go_wp2
      go_ret
      exact ⟨by unfold hasS; simp <;> omega, Below.refl _ _⟩
    · have d0 : decide ((32 : Int) ≤ x) = true := by rw [decide_eq_true_iff]; omega
      have d1 : decide ((x : Int) < 127) = true := by rw [decide_eq_true_iff]; omega
      go_enter Tryd.func29, Tryd.ntmps29
      go_wp2
      go_ret
      exact ⟨by unfold hasS; simp <;> omega, Below.refl _ _⟩
    · have d0 : decide ((32 : Int) ≤ x) = true := by rw [decide_eq_true_iff]; omega
      have d1 : decide ((x : Int) < 127) = false := by rw [decide_eq_false_iff_not]; omega
      go_enter Tryd.func29, Tryd.ntmps29
      go_wp2
      go_ret
      exact ⟨by unfold hasS; simp <;> omega, Below.refl _ _⟩
  by_cases c20 : k = 20
  · subst c20
    rcases (by omega : (0 ≤ x ∧ x < 32) ∨ (32 ≤ x ∧ x < 127) ∨ (127 ≤ x ∧ x < 160) ∨ (160 ≤ x ∧ x < 256) ∨ (256 ≤ x)) with ⟨h, h'⟩ | ⟨h, h'⟩ | ⟨h, h'⟩ | ⟨h, h'⟩ | h
    · have d0 : decide ((32 : Int) ≤ x) = false := by rw [decide_eq_false_iff_not]; omega
      have d1 : decide ((x : Int) < 127) = true := by rw [decide_eq_true_iff]; omega
      have d2 : decide ((160 : Int) ≤ x) = false := by rw [decide_eq_false_iff_not]; omega
      have d3 : decide ((x : Int) < 256) = true := by rw [decide_eq_true_iff]; omega
      go_enter Tryd.func29, Tryd.ntmps29
      go_wp2
      go_ret
      exact ⟨by unfold hasS; simp <;> omega, Below.refl _ _⟩
    · have d0 : decide ((32 : Int) ≤ x) = true := by rw [decide_eq_true_iff]; omega
      have d1 : decide ((x : Int) < 127) = true := by rw [decide_eq_true_iff]; omega
      have d2 : decide ((160 : Int) ≤ x) = false := by rw [decide_eq_false_iff_not]; omega
      have d3 : decide ((x : Int) < 256) = true := by rw [decide_eq_true_iff]; omega
      go_enter Tryd.func29, Tryd.ntmps29
      go_wp2
      go_ret
      exact ⟨by unfold hasS; simp <;> omega, Below.refl _ _⟩
    · have d0 : decide ((32 : Int) ≤ x) = true := by rw [decide_eq_true_iff]; omega
      have d1 : decide ((x : Int) < 127) = false := by rw [decide_eq_false_iff_not]; omega
      have d2 : decide ((160 : Int) ≤ x) = false := by rw [decide_eq_false_iff_not]; omega
      have d3 : decide ((x : Int) < 256) = true := by rw [decide_eq_true_iff]; omega
      go_enter Tryd.func29, Tryd.ntmps29
      go_wp2
      go_ret
      exact ⟨by unfold hasS; simp <;> omega, Below.refl _ _⟩
    · have d0 : decide ((32 : Int) ≤ x) = true := by rw [decide_eq_true_iff]; omega
      have d1 : decide ((x : Int) < 127) = false := by rw [decide_eq_false_iff_not]; omega
      have d2 : decide ((160 : Int) ≤ x) = true := by rw [decide_eq_true_iff]; omega
      have d3 : decide ((x : Int) < 256) = true := by rw [decide_eq_true_iff]; omega
      go_enter Tryd.func29, Tryd.ntmps29
      go_wp2
      go_ret
      exact ⟨by unfold hasS; simp <;> omega, Below.refl _ _⟩
    · have d0 : decide ((32 : Int) ≤ x) = true := by rw [decide_eq_true_iff]; omega
      have d1 : decide ((x : Int) < 127) = false := by rw [decide_eq_false_iff_not]; omega
      have d2 : decide ((160 : Int) ≤ x) = true := by rw [decide_eq_true_iff]; omega
      have d3 : decide ((x : Int) < 256) = false := by rw [decide_eq_false_iff_not]; omega
      go_enter Tryd.func29, Tryd.ntmps29
      go_wp2
      go_ret
      exact ⟨by unfold hasS; simp <;> omega, Below.refl _ _⟩
  by_cases c19 : k = 19
  · subst c19
    rcases (by omega : (0 ≤ x ∧ x < 48) ∨ (48 ≤ x ∧ x < 58) ∨ (58 ≤ x ∧ x < 65) ∨ (65 ≤ x ∧ x < 91) ∨ (91 ≤ x ∧ x < 97) ∨ (97 ≤ x ∧ x < 123) ∨ (123 ≤ x)) with ⟨h, h'⟩ | ⟨h, h'⟩ | ⟨h, h'⟩ | ⟨h, h'⟩ | ⟨h, h'⟩ | ⟨h, h'⟩ | h
    · have d0 : decide ((48 : Int) ≤ x) = false := by rw [decide_eq_false_iff_not]; omega
      have d1 : decide ((x : Int) < 58) = true := by rw [decide_eq_true_iff]; omega
      have d2 : decide ((65 : Int) ≤ x) = false := by rw [decide_eq_false_iff_not]; omega
      have d3 : decide ((x : Int) < 91) = true := by rw [decide_eq_true_iff]; omega
      have d4 : decide ((97 : Int) ≤ x) = false := by rw [decide_eq_false_iff_not]; omega
      have d5 : decide ((x : Int) < 123) = true := by rw [decide_eq_true_iff]; omega
      go_enter Tryd.func29, Tryd.ntmps29
      go_wp2
      go_loop [6] (fun i => ∃ j : Nat, j ≤ 12 ∧ i = .int .i64 j ∧ ∀ m, m < j → oth.getD m 0 ≠ x) (fun i => 12 - (intOf i).toNat)
      case atStart => exact ⟨0, by omega, rfl, fun m hm => absurd hm (Nat.not_lt_zero _)⟩
      case round =>
        obtain ⟨j, hj, rfl, hne⟩ := hrel
        have Hne := Lib.hid hne; clear hne
        by_cases hlt : j < 12
        · go_wp2
          · go_ret
            have ht := oth_hit j hlt x (by assumption)
            exact ⟨by unfold hasS prn; simp; exact .inr (oth_mem j hlt x ht), Below.refl _ _⟩
          · go_round
            case rel => exact ⟨j + 1, by omega, by go_num, oth_more j x Hne.out (oth_miss j hlt x (by assumption))⟩
            case measure => simp [intOf]; omega
        · go_wp2
          go_ret
          exact ⟨by unfold hasS prn; simp; exact ⟨by omega, oth_none x fun m hm => Hne.out m (by omega)⟩, Below.refl _ _⟩
    · have d0 : decide ((48 : Int) ≤ x) = true := by rw [decide_eq_true_iff]; omega
      have d1 : decide ((x : Int) < 58) = true := by rw [decide_eq_true_iff]; omega
      have d2 : decide ((65 : Int) ≤ x) = false := by rw [decide_eq_false_iff_not]; omega
      have d3 : decide ((x : Int) < 91) = true := by rw [decide_eq_true_iff]; omega
      have d4 : decide ((97 : Int) ≤ x) = false := by rw [decide_eq_false_iff_not]; omega
      have d5 : decide ((x : Int) < 123) = true := by rw [decide_eq_true_iff]; omega
      go_enter Tryd.func29, Tryd.ntmps29
      go_wp2
      go_ret
      exact ⟨by unfold hasS prn; simp; omega, Below.refl _ _⟩
    · have d0 : decide ((48 : Int) ≤ x) = true := by rw [decide_eq_true_iff]; omega
      have d1 : decide ((x : Int) < 58) = false := by rw [decide_eq_false_iff_not]; omega
      have d2 : decide ((65 : Int) ≤ x) = false := by rw [decide_eq_false_iff_not]; omega
      have d3 : decide ((x : Int) < 91) = true := by rw [decide_eq_true_iff]; omega
      have d4 : decide ((97 : Int) ≤ x) = false := by rw [decide_eq_false_iff_not]; omega
      have d5 : decide ((x : Int) < 123) = true := by rw [decide_eq_true_iff]; omega
      go_enter Tryd.func29, Tryd.ntmps29
      go_wp2
      go_loop [6] (fun i => ∃ j : Nat, j ≤ 12 ∧ i = .int .i64 j ∧ ∀ m, m < j → oth.getD m 0 ≠ x) (fun i => 12 - (intOf i).toNat)
      case atStart => exact ⟨0, by omega, rfl, fun m hm => absurd hm (Nat.not_lt_zero _)⟩
      case round =>
        obtain ⟨j, hj, rfl, hne⟩ := hrel
        have Hne := Lib.hid hne; clear hne
        by_cases hlt : j < 12
        · go_wp2
          · go_ret
            have ht := oth_hit j hlt x (by assumption)
            exact ⟨by unfold hasS prn; simp; exact .inr (oth_mem j hlt x ht), Below.refl _ _⟩
          · go_round
            case rel => exact ⟨j + 1, by omega, by go_num, oth_more j x Hne.out (oth_miss j hlt x (by assumption))⟩
            case measure => simp [intOf]; omega
        · go_wp2
          go_ret
          exact ⟨by unfold hasS prn; simp; exact ⟨by omega, oth_none x fun m hm => Hne.out m (by omega)⟩, Below.refl _ _⟩
    · have d0 : decide ((48 : Int) ≤ x) = true := by rw [decide_eq_true_iff]; omega
      have d1 : decide ((x : Int) < 58) = false := by rw [decide_eq_false_iff_not]; omega
      have d2 : decide ((65 : Int) ≤ x) = true := by rw [decide_eq_true_iff]; omega
      have d3 : decide ((x : Int) < 91) = true := by rw [decide_eq_true_iff]; omega
      have d4 : decide ((97 : Int) ≤ x) = false := by rw [decide_eq_false_iff_not]; omega
      have d5 : decide ((x : Int) < 123) = true := by rw [decide_eq_true_iff]; omega
      go_enter Tryd.func29, Tryd.ntmps29
      go_wp2
      go_ret
      exact ⟨by unfold hasS prn; simp; omega, Below.refl _ _⟩
    · have d0 : decide ((48 : Int) ≤ x) = true := by rw [decide_eq_true_iff]; omega
      have d1 : decide ((x : Int) < 58) = false := by rw [decide_eq_false_iff_not]; omega
      have d2 : decide ((65 : Int) ≤ x) = true := by rw [decide_eq_true_iff]; omega
      have d3 : decide ((x : Int) < 91) = false := by rw [decide_eq_false_iff_not]; omega
      have d4 : decide ((97 : Int) ≤ x) = false := by rw [decide_eq_false_iff_not]; omega
      have d5 : decide ((x : Int) < 123) = true := by rw [decide_eq_true_iff]; omega
      go_enter Tryd.func29, Tryd.ntmps29
      go_wp2
      go_loop [6] (fun i => ∃ j : Nat, j ≤ 12 ∧ i = .int .i64 j ∧ ∀ m, m < j → oth.getD m 0 ≠ x) (fun i => 12 - (intOf i).toNat)
      case atStart => exact ⟨0, by omega, rfl, fun m hm => absurd hm (Nat.not_lt_zero _)⟩
      case round =>
        obtain ⟨j, hj, rfl, hne⟩ := hrel
        have Hne := Lib.hid hne; clear hne
        by_cases hlt : j < 12
        · go_wp2
          · go_ret
            have ht := oth_hit j hlt x (by assumption)
            exact ⟨by unfold hasS prn; simp; exact .inr (oth_mem j hlt x ht), Below.refl _ _⟩
          · go_round
            case rel => exact ⟨j + 1, by omega, by go_num, oth_more j x Hne.out (oth_miss j hlt x (by assumption))⟩
            case measure => simp [intOf]; omega
        · go_wp2
          go_ret
          exact ⟨by unfold hasS prn; simp; exact ⟨by omega, oth_none x fun m hm => Hne.out m (by omega)⟩, Below.refl _ _⟩
    · have d0 : decide ((48 : Int) ≤ x) = true := by rw [decide_eq_true_iff]; omega
      have d1 : decide ((x : Int) < 58) = false := by rw [decide_eq_false_iff_not]; omega
      have d2 : decide ((65 : Int) ≤ x) = true := by rw [decide_eq_true_iff]; omega
      have d3 : decide ((x : Int) < 91) = false := by rw [decide_eq_false_iff_not]; omega
      have d4 : decide ((97 : Int) ≤ x) = true := by rw [decide_eq_true_iff]; omega
      have d5 : decide ((x : Int) < 123) = true := by rw [decide_eq_true_iff]; omega
      go_enter Tryd.func29, Tryd.ntmps29
      go_wp2
      go_ret
      exact ⟨by unfold hasS prn; simp; omega, Below.refl _ _⟩
    · have d0 : decide ((48 : Int) ≤ x) = true := by rw [decide_eq_true_iff]; omega
      have d1 : decide ((x : Int) < 58) = false := by rw [decide_eq_false_iff_not]; omega
      have d2 : decide ((65 : Int) ≤ x) = true := by rw [decide_eq_true_iff]; omega
      have d3 : decide ((x : Int) < 91) = false := by rw [decide_eq_false_iff_not]; omega
      have d4 : decide ((97 : Int) ≤ x) = true := by rw [decide_eq_true_iff]; omega
      have d5 : decide ((x : Int) < 123) = false := by rw [decide_eq_false_iff_not]; omega
      go_enter Tryd.func29, Tryd.ntmps29
      go_wp2
      go_loop [6] (fun i => ∃ j : Nat, j ≤ 12 ∧ i = .int .i64 j ∧ ∀ m, m < j → oth.getD m 0 ≠ x) (fun i => 12 - (intOf i).toNat)
      case atStart => exact ⟨0, by omega, rfl, fun m hm => absurd hm (Nat.not_lt_zero _)⟩
      case round =>
        obtain ⟨j, hj, rfl, hne⟩ := hrel
        have Hne := Lib.hid hne; clear hne
        by_cases hlt : j < 12
        · go_wp2
          · go_ret
            have ht := oth_hit j hlt x (by assumption)
            exact ⟨by unfold hasS prn; simp; exact .inr (oth_mem j hlt x ht), Below.refl _ _⟩
          · go_round
            case rel => exact ⟨j + 1, by omega, by go_num, oth_more j x Hne.out (oth_miss j hlt x (by assumption))⟩
            case measure => simp [intOf]; omega
        · go_wp2
          go_ret
          exact ⟨by unfold hasS prn; simp; exact ⟨by omega, oth_none x fun m hm => Hne.out m (by omega)⟩, Below.refl _ _⟩
  have q : (k == 12) = false ∧ (k == 28) = false ∧ (k == 30) = false ∧ (k == 22) = false ∧ (k == 26) = false ∧ (k == 20) = false ∧ (k == 19) = false := by simp [*]
  obtain ⟨q1, q2, q3, q4, q5, q6, q7⟩ := q
  go_enter Tryd.func29, Tryd.ntmps29
  go_wp2
  go_ret
  exact ⟨by unfold hasS; simp [*], Below.refl _ _⟩

end Go.Proofs.YtafconpneeggiaaDoor
