/- The walk of the law CharsetSame: it answers true at any three character strings. No condition but the tables of unicode/utf8. Printed by wip/gen/samelaw.py. -/
import Derived.Test.YtafconpneeggiaaDoorSame
import Derived.Test.YtafconpneeggiaaDoorAwake07
import Derived.Test.YtafconpneeggiaaDoorRegR
namespace Go.Proofs.YtafconpneeggiaaDoor
open Go.RowKit
open Go.Lib (validD decodeL)

theorem sameS_comm (k1 : Int) (l1 : List UInt8) (k2 : Int) (l2 : List UInt8) : sameS k2 l2 k1 l1 = sameS k1 l1 k2 l2 := by
  unfold sameS
  rw [Bool.eq_iff_iff]
  simp only [Bool.and_eq_true, decide_eq_true_eq]
  constructor <;> (rintro ⟨a, b, c⟩; exact ⟨b, a, c.symm⟩)
theorem sameS_self (k : Int) (l : List UInt8) : sameS k l k l = validS k l := by
  unfold sameS
  cases validS k l <;> simp
theorem sameS_trans {k1 k2 k3 : Int} {l1 l2 l3 : List UInt8} (h1 : sameS k1 l1 k2 l2 = true) (h2 : sameS k2 l2 k3 l3 = true) : sameS k1 l1 k3 l3 = true := by
  unfold sameS at *
  simp only [Bool.and_eq_true, decide_eq_true_eq] at *
  exact ⟨h1.1, h2.2.1, h1.2.2.trans h2.2.2⟩

/-- What each operation's value is known to be. -/
def slttJ3 (k1 k2 k3 : Int) (s1 s2 s3 : ByteArray) (B : Nat) (W0 : World) : Nat → Value → World → Prop
  | 0, v, _ => v = (.agg #[.int .i64 k1, .string s1])
  | 1, v, _ => v = (.agg #[.int .i64 k2, .string s2])
  | 2, v, _ => v = .bool true
  | 3, v, _ => v = (.agg #[.int .i64 k2, .string s2])
  | 4, v, _ => v = (.agg #[.int .i64 k3, .string s3])
  | 5, v, _ => v = .bool true
  | 6, v, _ => v = (.agg #[.int .i64 k1, .string s1])
  | 7, v, _ => v = (.agg #[.int .i64 k3, .string s3])
  | 8, v, _ => v = .bool true
  | 9, v, _ => v = .bool true
  | 10, v, _ => v = .bool true
  | 11, v, _ => v = .bool true
  | _, _, _ => True

/-- What each operation's value is known to be. -/
def slttJ4 (k1 k2 k3 : Int) (s1 s2 s3 : ByteArray) (B : Nat) (W0 : World) (V : Bool) : Nat → Value → World → Prop
  | 0, v, _ => v = .bool true
  | 1, v, _ => v = (.agg #[.int .i64 k1, .string s1])
  | 2, v, _ => v = (.agg #[.int .i64 k2, .string s2])
  | 3, v, _ => v = .bool true
  | 4, v, _ => v = .bool true
  | 5, v, _ => v = .bool true
  | 6, v, _ => v = .bool true
  | 7, v, _ => v = (.agg #[.int .i64 k2, .string s2])
  | 8, v, _ => v = (.agg #[.int .i64 k1, .string s1])
  | 9, v, _ => v = .bool true
  | 10, v, _ => v = .bool true
  | 11, v, _ => v = .bool true
  | 12, v, _ => v = .bool true
  | 13, v, _ => v = (.agg #[.int .i64 k1, .string s1])
  | 14, v, _ => v = (.agg #[.int .i64 k1, .string s1])
  | 15, v, _ => v = .bool V
  | 16, v, _ => v = (.agg #[.int .i64 k1, .string s1])
  | 17, v, _ => v = .bool V
  | 18, v, _ => v = .bool true
  | 19, v, _ => v = .bool true
  | 20, v, _ => v = .bool true
  | 21, v, _ => v = .bool true
  | 22, v, _ => v = .bool false
  | 23, v, _ => v = .bool false
  | 24, v, _ => v = .bool true
  | 25, v, _ => v = .bool false
  | 26, v, _ => v = .bool false
  | 27, v, _ => v = .bool false
  | 28, v, _ => v = .bool true
  | 29, v, _ => v = .bool true
  | 30, v, _ => v = .bool true
  | 31, v, _ => v = .bool true
  | _, _, _ => True

set_option maxRecDepth 100000 in
set_option maxHeartbeats 8000000 in
theorem sltt (k1 k2 k3 : Int) (s1 s2 s3 : ByteArray) (hs1 : s1.size ≤ 1000) (hs2 : s2.size ≤ 1000) (hs3 : s3.size ≤ 1000) (w : World) (hT : Lib.Utf8Tabs 0 1 w)
    (hA : sameS k1 s1.data.toList k2 s2.data.toList = true) (hBv : sameS k2 s2.data.toList k3 s3.data.toList = true) (hC : sameS k1 s1.data.toList k3 s3.data.toList = true) :
    Calls Tryd.prog 3 #[.agg #[.int .i64 k1, .string s1], .agg #[.int .i64 k2, .string s2], .agg #[.int .i64 k3, .string s3]] w fun e w' => e = .returned (.bool true) ∧ Below w.heap.size w w' := by
  have HA := Lib.hid hA; clear hA
  have HBv := Lib.hid hBv; clear hBv
  have HC := Lib.hid hC; clear hC
  obtain ⟨V, hV⟩ : ∃ V, validS k1 s1.data.toList = V := ⟨_, rfl⟩
  have HV := Lib.hid hV; clear hV
  have HT0 := Lib.hid hT; clear hT
  have d1 : decide ((1000 : Int) < s1.size) = false := by rw [decide_eq_false_iff_not]; omega
  have d2 : decide ((1000 : Int) < s2.size) = false := by rw [decide_eq_false_iff_not]; omega
  have d3 : decide ((1000 : Int) < s3.size) = false := by rw [decide_eq_false_iff_not]; omega
  have HS1 : Hid (s1.size ≤ 16777216) := Lib.hid (by omega)
  have HS2 : Hid (s2.size ≤ 16777216) := Lib.hid (by omega)
  have HS3 : Hid (s3.size ≤ 16777216) := Lib.hid (by omega)
  clear hs1 hs2 hs3
  go_enter Tryd.func3, Tryd.ntmps3
  go_wp2_with fail
  refine (awake_any _ (Utf8Tabs_below HT0.out (by exact (((Below.refl _ _).alloc (Nat.le_refl _) _).alloc (by simp) _).alloc (by simp; omega) _))).mono ?_
  rintro e W0 ⟨rfl, hb⟩
  obtain ⟨hc, -⟩ := bcell hb
  have h10 : W0.cell? ⟨w.heap.size, 0, none⟩ = some (.int .i64 k1) := by rw [hc (w.heap.size) 0 (by first | omega | (simp; done) | (simp; omega) | (simp [go_sem]; done) | (simp [go_sem]; omega))]; simp [go_sem]
  have h11 : W0.cell? ⟨w.heap.size, 1, none⟩ = some (.string s1) := by rw [hc (w.heap.size) 1 (by first | omega | (simp; done) | (simp; omega) | (simp [go_sem]; done) | (simp [go_sem]; omega))]; simp [go_sem]
  have h20 : W0.cell? ⟨w.heap.size + 1, 0, none⟩ = some (.int .i64 k2) := by rw [hc (w.heap.size + 1) 0 (by first | omega | (simp; done) | (simp; omega) | (simp [go_sem]; done) | (simp [go_sem]; omega))]; simp [go_sem]
  have h21 : W0.cell? ⟨w.heap.size + 1, 1, none⟩ = some (.string s2) := by rw [hc (w.heap.size + 1) 1 (by first | omega | (simp; done) | (simp; omega) | (simp [go_sem]; done) | (simp [go_sem]; omega))]; simp [go_sem]
  have h30 : W0.cell? ⟨w.heap.size + 1 + 1, 0, none⟩ = some (.int .i64 k3) := by rw [hc (w.heap.size + 1 + 1) 0 (by first | omega | (simp; done) | (simp; omega) | (simp [go_sem]; done) | (simp [go_sem]; omega))]; simp [go_sem]
  have h31 : W0.cell? ⟨w.heap.size + 1 + 1, 1, none⟩ = some (.string s3) := by rw [hc (w.heap.size + 1 + 1) 1 (by first | omega | (simp; done) | (simp; omega) | (simp [go_sem]; done) | (simp [go_sem]; omega))]; simp [go_sem]
  have hbw : Below w.heap.size w W0 := Below.trans (((Below.refl _ _).alloc (Nat.le_refl _) _).alloc (by simp) _ |>.alloc (by simp; omega) _) (hb.mono (by simp; omega))
  clear hc hb
  have HT := Lib.hid (Utf8Tabs_below HT0.out hbw)
  have HBW := Lib.hid hbw; clear hbw
  go_wp2
  obtain ⟨B, hB⟩ : ∃ B, w.heap.size = B := ⟨_, rfl⟩
  rw [hB] at h10 h11 h20 h21 h30 h31 ⊢
  have HB := Lib.hid hB; clear hB
  have e2 : B + 1 + 1 = B + 2 := rfl
  rw [e2] at h30 h31 ⊢
  clear e2
  have hB1 : B < W0.heap.size := lt_of_cell h10
  have hB2 : B + 1 < W0.heap.size := lt_of_cell h20
  have hB3 : B + 2 < W0.heap.size := lt_of_cell h30
  refine wp_region_R (by kernel_rfl) (by kernel_rfl) (fun x => #[(.agg #[.int .i64 k1, .string s1]), (.agg #[.int .i64 k2, .string s2]), (.agg #[.int .i64 k3, .string s3]), (.pointer (some ⟨B, 0, none⟩)), (.pointer (some ⟨B + 1, 0, none⟩)), (.pointer (some ⟨B + 2, 0, none⟩)), .bool false, x 7, x 8, x 9, x 10, x 11, x 12, x 13, x 14, x 15, x 16, x 17, x 18, x 19, x 20, x 21, x 22, x 23, x 24, x 25, x 26, x 27, x 28, x 29, x 30, x 31, x 32, x 33, x 34, x 35, x 36, x 37, x 38, x 39, x 40, x 41, x 42, x 43, x 44, x 45, x 46, x 47, x 48, x 49, x 50, x 51, x 52, x 53, x 54, x 55, x 56, x 57, x 58, x 59, x 60, x 61, x 62, x 63, x 64, x 65, x 66, x 67, x 68, x 69, x 70]) [31, 32, 33, 34, 35, 36, 37, 38, 39, 7, 8, 9] (slttJ3 k1 k2 k3 s1 s2 s3 B W0) W0 (by decide) (by rfl) (fun k v w w' _ h => by unfold slttJ3 at *; split at h <;> exact h) (by rfl) (Below.refl _ _) ?steps ?last
  case steps =>
    refine ⟨?_, ?_, ?_, ?_, ?_, ?_, ?_, ?_, ?_, ?_, ?_, ?_, trivial⟩
    · intro x w hb hdep
      have c10 := (hb.cell (p := ⟨B, 0, none⟩) hB1).trans h10; have c11 := (hb.cell (p := ⟨B, 1, none⟩) hB1).trans h11
      clear hdep
      go_wp2
      exact ⟨(.agg #[.int .i64 k1, .string s1]), (by simp only [updV] <;> rfl), rfl, Below.refl _ _⟩
    · intro x w hb hdep
      have c20 := (hb.cell (p := ⟨B + 1, 0, none⟩) hB2).trans h20; have c21 := (hb.cell (p := ⟨B + 1, 1, none⟩) hB2).trans h21
      clear hdep
      go_wp2
      exact ⟨(.agg #[.int .i64 k2, .string s2]), (by simp only [updV] <;> rfl), rfl, Below.refl _ _⟩
    · intro x w hb hdep
      have g0 : x 31 = (.agg #[.int .i64 k1, .string s1]) := hdep ⟨0, .data⟩ (by simp) rfl
      have g1 : x 32 = (.agg #[.int .i64 k2, .string s2]) := hdep ⟨1, .data⟩ (by simp) rfl
      clear hdep
      go_wp2_with (go_at_call 9; refine (same_any k1 s1 k2 s2 HS1.out HS2.out _ (Utf8Tabs_below HT.out hb)).mono ?_; rintro e w1 ⟨rfl, hbc⟩; rw [HA.out])
      exact ⟨.bool true, (by simp only [updV, g0, g1] <;> rfl), rfl, hbc⟩
    · intro x w hb hdep
      have c20 := (hb.cell (p := ⟨B + 1, 0, none⟩) hB2).trans h20; have c21 := (hb.cell (p := ⟨B + 1, 1, none⟩) hB2).trans h21
      clear hdep
      go_wp2
      exact ⟨(.agg #[.int .i64 k2, .string s2]), (by simp only [updV] <;> rfl), rfl, Below.refl _ _⟩
    · intro x w hb hdep
      have c30 := (hb.cell (p := ⟨B + 2, 0, none⟩) hB3).trans h30; have c31 := (hb.cell (p := ⟨B + 2, 1, none⟩) hB3).trans h31
      clear hdep
      go_wp2
      exact ⟨(.agg #[.int .i64 k3, .string s3]), (by simp only [updV] <;> rfl), rfl, Below.refl _ _⟩
    · intro x w hb hdep
      have g3 : x 34 = (.agg #[.int .i64 k2, .string s2]) := hdep ⟨3, .data⟩ (by simp) rfl
      have g4 : x 35 = (.agg #[.int .i64 k3, .string s3]) := hdep ⟨4, .data⟩ (by simp) rfl
      clear hdep
      go_wp2_with (go_at_call 9; refine (same_any k2 s2 k3 s3 HS2.out HS3.out _ (Utf8Tabs_below HT.out hb)).mono ?_; rintro e w1 ⟨rfl, hbc⟩; rw [HBv.out])
      exact ⟨.bool true, (by simp only [updV, g3, g4] <;> rfl), rfl, hbc⟩
    · intro x w hb hdep
      have c10 := (hb.cell (p := ⟨B, 0, none⟩) hB1).trans h10; have c11 := (hb.cell (p := ⟨B, 1, none⟩) hB1).trans h11
      clear hdep
      go_wp2
      exact ⟨(.agg #[.int .i64 k1, .string s1]), (by simp only [updV] <;> rfl), rfl, Below.refl _ _⟩
    · intro x w hb hdep
      have c30 := (hb.cell (p := ⟨B + 2, 0, none⟩) hB3).trans h30; have c31 := (hb.cell (p := ⟨B + 2, 1, none⟩) hB3).trans h31
      clear hdep
      go_wp2
      exact ⟨(.agg #[.int .i64 k3, .string s3]), (by simp only [updV] <;> rfl), rfl, Below.refl _ _⟩
    · intro x w hb hdep
      have g6 : x 37 = (.agg #[.int .i64 k1, .string s1]) := hdep ⟨6, .data⟩ (by simp) rfl
      have g7 : x 38 = (.agg #[.int .i64 k3, .string s3]) := hdep ⟨7, .data⟩ (by simp) rfl
      clear hdep
      go_wp2_with (go_at_call 9; refine (same_any k1 s1 k3 s3 HS1.out HS3.out _ (Utf8Tabs_below HT.out hb)).mono ?_; rintro e w1 ⟨rfl, hbc⟩; rw [HC.out])
      exact ⟨.bool true, (by simp only [updV, g6, g7] <;> rfl), rfl, hbc⟩
    · intro x w hb hdep
      have g2 : x 33 = .bool true := hdep ⟨2, .data⟩ (by simp) rfl
      clear hdep
      go_wp2
      exact ⟨.bool true, (by simp only [updV, g2] <;> rfl), rfl, Below.refl _ _⟩
    · intro x w hb hdep
      have g5 : x 36 = .bool true := hdep ⟨5, .data⟩ (by simp) rfl
      clear hdep
      go_wp2
      exact ⟨.bool true, (by simp only [updV, g5] <;> rfl), rfl, Below.refl _ _⟩
    · intro x w hb hdep
      have g8 : x 39 = .bool true := hdep ⟨8, .data⟩ (by simp) rfl
      clear hdep
      go_wp2
      exact ⟨.bool true, (by simp only [updV, g8] <;> rfl), rfl, Below.refl _ _⟩
  case last =>
    intro x w2 hb h
    have g9 : x 7 = .bool true := h 9 (by decide)
    have g10 : x 8 = .bool true := h 10 (by decide)
    have g11 : x 9 = .bool true := h 11 (by decide)
    clear h
    simp only [g9, g10, g11]
    clear g9 g10 g11
    have hb3 := hb; clear hb
    go_wp2
    refine wp_region_R (by kernel_rfl) (by kernel_rfl) (fun x => #[(.agg #[.int .i64 k1, .string s1]), (.agg #[.int .i64 k2, .string s2]), (.agg #[.int .i64 k3, .string s3]), (.pointer (some ⟨B, 0, none⟩)), (.pointer (some ⟨B + 1, 0, none⟩)), (.pointer (some ⟨B + 2, 0, none⟩)), x 6, .bool true, .bool true, .bool true, x 10, x 11, x 12, x 13, x 14, x 15, x 16, x 17, x 18, x 19, x 20, x 21, x 22, x 23, x 24, x 25, x 26, x 27, x 28, x 29, x 30, x 31, x 32, x 33, x 34, x 35, x 36, x 37, x 38, x 39, x 40, x 41, x 42, x 43, x 44, x 45, x 46, x 47, x 48, x 49, x 50, x 51, x 52, x 53, x 54, x 55, x 56, x 57, x 58, x 59, x 60, x 61, x 62, x 63, x 64, x 65, x 66, x 67, x 68, x 69, x 70]) [40, 41, 42, 43, 44, 45, 46, 47, 48, 49, 50, 51, 52, 53, 54, 55, 56, 57, 58, 59, 60, 61, 62, 63, 64, 65, 66, 67, 68, 69, 70, 6] (slttJ4 k1 k2 k3 s1 s2 s3 B W0 V) W0 (by decide) (by rfl) (fun k v w w' _ h => by unfold slttJ4 at *; split at h <;> exact h) (by rfl) hb3 ?steps ?last
    case steps =>
      refine ⟨?_, ?_, ?_, ?_, ?_, ?_, ?_, ?_, ?_, ?_, ?_, ?_, ?_, ?_, ?_, ?_, ?_, ?_, ?_, ?_, ?_, ?_, ?_, ?_, ?_, ?_, ?_, ?_, ?_, ?_, ?_, ?_, trivial⟩
      · intro x w hb hdep
        clear hdep
        go_wp2
        exact ⟨.bool true, (by simp only [updV] <;> rfl), rfl, Below.refl _ _⟩
      · intro x w hb hdep
        have c10 := (hb.cell (p := ⟨B, 0, none⟩) hB1).trans h10; have c11 := (hb.cell (p := ⟨B, 1, none⟩) hB1).trans h11
        clear hdep
        go_wp2
        exact ⟨(.agg #[.int .i64 k1, .string s1]), (by simp only [updV] <;> rfl), rfl, Below.refl _ _⟩
      · intro x w hb hdep
        have c20 := (hb.cell (p := ⟨B + 1, 0, none⟩) hB2).trans h20; have c21 := (hb.cell (p := ⟨B + 1, 1, none⟩) hB2).trans h21
        clear hdep
        go_wp2
        exact ⟨(.agg #[.int .i64 k2, .string s2]), (by simp only [updV] <;> rfl), rfl, Below.refl _ _⟩
      · intro x w hb hdep
        have g1 : x 41 = (.agg #[.int .i64 k1, .string s1]) := hdep ⟨1, .data⟩ (by simp) rfl
        have g2 : x 42 = (.agg #[.int .i64 k2, .string s2]) := hdep ⟨2, .data⟩ (by simp) rfl
        clear hdep
        go_wp2_with (go_at_call 10; refine (rSame_any k1 s1 k2 s2 HS1.out HS2.out _).mono ?_; rintro e w1 ⟨rfl, hbc⟩; rw [HA.out])
        exact ⟨.bool true, (by simp only [updV, g1, g2] <;> rfl), rfl, hbc⟩
      · intro x w hb hdep
        have g0 : x 40 = .bool true := hdep ⟨0, .data⟩ (by simp) rfl
        have g3 : x 43 = .bool true := hdep ⟨3, .data⟩ (by simp) rfl
        clear hdep
        go_wp2
        exact ⟨.bool true, (by simp only [updV, g0, g3] <;> rfl), rfl, Below.refl _ _⟩
      · intro x w hb hdep
        have g4 : x 44 = .bool true := hdep ⟨4, .data⟩ (by simp) rfl
        clear hdep
        go_wp2
        exact ⟨.bool true, (by simp only [updV, g4] <;> rfl), rfl, Below.refl _ _⟩
      · intro x w hb hdep
        have g5 : x 45 = .bool true := hdep ⟨5, .guard⟩ (by simp) rfl
        clear hdep
        go_wp2
        exact ⟨.bool true, (by simp only [updV, g5] <;> rfl), rfl, Below.refl _ _⟩
      · intro x w hb hdep
        have g5 : x 45 = .bool true := hdep ⟨5, .guard⟩ (by simp) rfl
        have c20 := (hb.cell (p := ⟨B + 1, 0, none⟩) hB2).trans h20; have c21 := (hb.cell (p := ⟨B + 1, 1, none⟩) hB2).trans h21
        clear hdep
        go_wp2
        exact ⟨(.agg #[.int .i64 k2, .string s2]), (by simp only [updV, g5] <;> rfl), rfl, Below.refl _ _⟩
      · intro x w hb hdep
        have g5 : x 45 = .bool true := hdep ⟨5, .guard⟩ (by simp) rfl
        have c10 := (hb.cell (p := ⟨B, 0, none⟩) hB1).trans h10; have c11 := (hb.cell (p := ⟨B, 1, none⟩) hB1).trans h11
        clear hdep
        go_wp2
        exact ⟨(.agg #[.int .i64 k1, .string s1]), (by simp only [updV, g5] <;> rfl), rfl, Below.refl _ _⟩
      · intro x w hb hdep
        have g7 : x 47 = (.agg #[.int .i64 k2, .string s2]) := hdep ⟨7, .data⟩ (by simp) rfl
        have g8 : x 48 = (.agg #[.int .i64 k1, .string s1]) := hdep ⟨8, .data⟩ (by simp) rfl
        have g5 : x 45 = .bool true := hdep ⟨5, .guard⟩ (by simp) rfl
        clear hdep
        go_wp2_with (go_at_call 9; refine (same_any k2 s2 k1 s1 HS2.out HS1.out _ (Utf8Tabs_below HT.out hb)).mono ?_; rintro e w1 ⟨rfl, hbc⟩; rw [sameS_comm, HA.out])
        exact ⟨.bool true, (by simp only [updV, g7, g8, g5] <;> rfl), rfl, hbc⟩
      · intro x w hb hdep
        have g6 : x 46 = .bool true := hdep ⟨6, .data⟩ (by simp) rfl
        have g9 : x 49 = .bool true := hdep ⟨9, .data⟩ (by simp) rfl
        have g5 : x 45 = .bool true := hdep ⟨5, .guard⟩ (by simp) rfl
        clear hdep
        go_wp2
        exact ⟨.bool true, (by simp only [updV, g6, g9, g5] <;> rfl), rfl, Below.refl _ _⟩
      · intro x w hb hdep
        have g5 : x 45 = .bool true := hdep ⟨5, .data⟩ (by simp) rfl
        have g10 : x 50 = .bool true := hdep ⟨10, .data⟩ (by simp) rfl
        clear hdep
        go_wp2
        exact ⟨.bool true, (by simp only [updV, g5, g10] <;> rfl), rfl, Below.refl _ _⟩
      · intro x w hb hdep
        have g11 : x 51 = .bool true := hdep ⟨11, .data⟩ (by simp) rfl
        clear hdep
        go_wp2
        exact ⟨.bool true, (by simp only [updV, g11] <;> rfl), rfl, Below.refl _ _⟩
      · intro x w hb hdep
        have g12 : x 52 = .bool true := hdep ⟨12, .guard⟩ (by simp) rfl
        have c10 := (hb.cell (p := ⟨B, 0, none⟩) hB1).trans h10; have c11 := (hb.cell (p := ⟨B, 1, none⟩) hB1).trans h11
        clear hdep
        go_wp2
        exact ⟨(.agg #[.int .i64 k1, .string s1]), (by simp only [updV, g12] <;> rfl), rfl, Below.refl _ _⟩
      · intro x w hb hdep
        have g12 : x 52 = .bool true := hdep ⟨12, .guard⟩ (by simp) rfl
        have c10 := (hb.cell (p := ⟨B, 0, none⟩) hB1).trans h10; have c11 := (hb.cell (p := ⟨B, 1, none⟩) hB1).trans h11
        clear hdep
        go_wp2
        exact ⟨(.agg #[.int .i64 k1, .string s1]), (by simp only [updV, g12] <;> rfl), rfl, Below.refl _ _⟩
      · intro x w hb hdep
        have g13 : x 53 = (.agg #[.int .i64 k1, .string s1]) := hdep ⟨13, .data⟩ (by simp) rfl
        have g14 : x 54 = (.agg #[.int .i64 k1, .string s1]) := hdep ⟨14, .data⟩ (by simp) rfl
        have g12 : x 52 = .bool true := hdep ⟨12, .guard⟩ (by simp) rfl
        clear hdep
        go_wp2_with (go_at_call 9; refine (same_any k1 s1 k1 s1 HS1.out HS1.out _ (Utf8Tabs_below HT.out hb)).mono ?_; rintro e w1 ⟨rfl, hbc⟩; rw [sameS_self, HV.out])
        exact ⟨.bool V, (by simp only [updV, g13, g14, g12] <;> rfl), rfl, hbc⟩
      · intro x w hb hdep
        have g12 : x 52 = .bool true := hdep ⟨12, .guard⟩ (by simp) rfl
        have c10 := (hb.cell (p := ⟨B, 0, none⟩) hB1).trans h10; have c11 := (hb.cell (p := ⟨B, 1, none⟩) hB1).trans h11
        clear hdep
        go_wp2
        exact ⟨(.agg #[.int .i64 k1, .string s1]), (by simp only [updV, g12] <;> rfl), rfl, Below.refl _ _⟩
      · intro x w hb hdep
        have g16 : x 56 = (.agg #[.int .i64 k1, .string s1]) := hdep ⟨16, .data⟩ (by simp) rfl
        have g12 : x 52 = .bool true := hdep ⟨12, .guard⟩ (by simp) rfl
        clear hdep
        go_wp2_with (go_at_call 11; refine (rValid_any k1 s1 HS1.out _).mono ?_; rintro e w1 ⟨rfl, hbc⟩; rw [HV.out])
        exact ⟨.bool V, (by simp only [updV, g16, g12] <;> rfl), rfl, hbc⟩
      · intro x w hb hdep
        have g15 : x 55 = .bool V := hdep ⟨15, .data⟩ (by simp) rfl
        have g17 : x 57 = .bool V := hdep ⟨17, .data⟩ (by simp) rfl
        have g12 : x 52 = .bool true := hdep ⟨12, .guard⟩ (by simp) rfl
        clear hdep
        go_wp2
        exact ⟨.bool true, (by simp only [updV, g15, g17, g12] <;> rfl), rfl, Below.refl _ _⟩
      · intro x w hb hdep
        have g12 : x 52 = .bool true := hdep ⟨12, .data⟩ (by simp) rfl
        have g18 : x 58 = .bool true := hdep ⟨18, .data⟩ (by simp) rfl
        clear hdep
        go_wp2
        exact ⟨.bool true, (by simp only [updV, g12, g18] <;> rfl), rfl, Below.refl _ _⟩
      · intro x w hb hdep
        have g19 : x 59 = .bool true := hdep ⟨19, .data⟩ (by simp) rfl
        clear hdep
        go_wp2
        exact ⟨.bool true, (by simp only [updV, g19] <;> rfl), rfl, Below.refl _ _⟩
      · intro x w hb hdep
        have g20 : x 60 = .bool true := hdep ⟨20, .guard⟩ (by simp) rfl
        clear hdep
        go_wp2
        exact ⟨.bool true, (by simp only [updV, g20] <;> rfl), rfl, Below.refl _ _⟩
      · intro x w hb hdep
        have g21 : x 61 = .bool true := hdep ⟨21, .data⟩ (by simp) rfl
        have g20 : x 60 = .bool true := hdep ⟨20, .guard⟩ (by simp) rfl
        clear hdep
        go_wp2
        exact ⟨.bool false, (by simp only [updV, g21, g20] <;> rfl), rfl, Below.refl _ _⟩
      · intro x w hb hdep
        have g22 : x 62 = .bool false := hdep ⟨22, .data⟩ (by simp) rfl
        have g20 : x 60 = .bool true := hdep ⟨20, .guard⟩ (by simp) rfl
        clear hdep
        go_wp2
        exact ⟨.bool false, (by simp only [updV, g22, g20] <;> rfl), rfl, Below.refl _ _⟩
      · intro x w hb hdep
        have g23 : x 63 = .bool false := hdep ⟨23, .guard⟩ (by simp) rfl
        clear hdep
        go_wp2
        exact ⟨.bool true, (by simp only [updV, g23] <;> rfl), rfl, Below.refl _ _⟩
      · intro x w hb hdep
        have g24 : x 64 = .bool true := hdep ⟨24, .data⟩ (by simp) rfl
        have g23 : x 63 = .bool false := hdep ⟨23, .guard⟩ (by simp) rfl
        clear hdep
        go_wp2
        exact ⟨.bool false, (by simp only [updV, g24, g23] <;> rfl), rfl, Below.refl _ _⟩
      · intro x w hb hdep
        have g23 : x 63 = .bool false := hdep ⟨23, .data⟩ (by simp) rfl
        have g25 : x 65 = .bool false := hdep ⟨25, .data⟩ (by simp) rfl
        have g20 : x 60 = .bool true := hdep ⟨20, .guard⟩ (by simp) rfl
        clear hdep
        go_wp2
        exact ⟨.bool false, (by simp only [updV, g23, g25, g20] <;> rfl), rfl, Below.refl _ _⟩
      · intro x w hb hdep
        have g26 : x 66 = .bool false := hdep ⟨26, .data⟩ (by simp) rfl
        have g20 : x 60 = .bool true := hdep ⟨20, .guard⟩ (by simp) rfl
        clear hdep
        go_wp2
        exact ⟨.bool false, (by simp only [updV, g26, g20] <;> rfl), rfl, Below.refl _ _⟩
      · intro x w hb hdep
        have g27 : x 67 = .bool false := hdep ⟨27, .guard⟩ (by simp) rfl
        clear hdep
        go_wp2
        exact ⟨.bool true, (by simp only [updV, g27] <;> rfl), rfl, Below.refl _ _⟩
      · intro x w hb hdep
        have g27 : x 67 = .bool false := hdep ⟨27, .data⟩ (by simp) rfl
        have g28 : x 68 = .bool true := hdep ⟨28, .data⟩ (by simp) rfl
        have g20 : x 60 = .bool true := hdep ⟨20, .guard⟩ (by simp) rfl
        clear hdep
        go_wp2
        exact ⟨.bool true, (by simp only [updV, g27, g28, g20] <;> rfl), rfl, Below.refl _ _⟩
      · intro x w hb hdep
        have g20 : x 60 = .bool true := hdep ⟨20, .data⟩ (by simp) rfl
        have g29 : x 69 = .bool true := hdep ⟨29, .data⟩ (by simp) rfl
        clear hdep
        go_wp2
        exact ⟨.bool true, (by simp only [updV, g20, g29] <;> rfl), rfl, Below.refl _ _⟩
      · intro x w hb hdep
        have g30 : x 70 = .bool true := hdep ⟨30, .data⟩ (by simp) rfl
        clear hdep
        go_wp2
        exact ⟨.bool true, (by simp only [updV, g30] <;> rfl), rfl, Below.refl _ _⟩
    case last =>
      intro x w2 hb h
      have g31 : x 6 = .bool true := h 31 (by decide)
      clear h
      simp only [g31]
      clear g31
      go_wp2
      go_ret
      exact ⟨rfl, by rw [HB.out]; exact (by rw [← HB.out]; exact HBW.out : Below B w W0).trans (hb.mono (by have := HBW.out.size; rw [HB.out] at this; exact this))⟩

/-- What each operation's value is known to be. -/
def sltfJ3 (k1 k2 k3 : Int) (s1 s2 s3 : ByteArray) (B : Nat) (W0 : World) (Cv : Bool) : Nat → Value → World → Prop
  | 0, v, _ => v = (.agg #[.int .i64 k1, .string s1])
  | 1, v, _ => v = (.agg #[.int .i64 k2, .string s2])
  | 2, v, _ => v = .bool true
  | 3, v, _ => v = (.agg #[.int .i64 k2, .string s2])
  | 4, v, _ => v = (.agg #[.int .i64 k3, .string s3])
  | 5, v, _ => v = .bool false
  | 6, v, _ => v = (.agg #[.int .i64 k1, .string s1])
  | 7, v, _ => v = (.agg #[.int .i64 k3, .string s3])
  | 8, v, _ => v = .bool Cv
  | 9, v, _ => v = .bool true
  | 10, v, _ => v = .bool false
  | 11, v, _ => v = .bool Cv
  | _, _, _ => True

/-- What each operation's value is known to be. -/
def sltfJ4 (k1 k2 k3 : Int) (s1 s2 s3 : ByteArray) (B : Nat) (W0 : World) (Cv : Bool) (V : Bool) : Nat → Value → World → Prop
  | 0, v, _ => v = .bool true
  | 1, v, _ => v = (.agg #[.int .i64 k1, .string s1])
  | 2, v, _ => v = (.agg #[.int .i64 k2, .string s2])
  | 3, v, _ => v = .bool true
  | 4, v, _ => v = .bool true
  | 5, v, _ => v = .bool true
  | 6, v, _ => v = .bool true
  | 7, v, _ => v = (.agg #[.int .i64 k2, .string s2])
  | 8, v, _ => v = (.agg #[.int .i64 k1, .string s1])
  | 9, v, _ => v = .bool true
  | 10, v, _ => v = .bool true
  | 11, v, _ => v = .bool true
  | 12, v, _ => v = .bool true
  | 13, v, _ => v = (.agg #[.int .i64 k1, .string s1])
  | 14, v, _ => v = (.agg #[.int .i64 k1, .string s1])
  | 15, v, _ => v = .bool V
  | 16, v, _ => v = (.agg #[.int .i64 k1, .string s1])
  | 17, v, _ => v = .bool V
  | 18, v, _ => v = .bool true
  | 19, v, _ => v = .bool true
  | 20, v, _ => v = .bool true
  | 21, v, _ => v = .bool true
  | 22, v, _ => v = .bool false
  | 23, v, _ => v = .bool false
  | 24, v, _ => v = .bool false
  | 25, v, _ => v = .bool true
  | 26, v, _ => v = .bool true
  | 27, v, _ => v = .bool true
  | 29, v, _ => v = .bool true
  | 30, v, _ => v = .bool true
  | 31, v, _ => v = .bool true
  | _, _, _ => True

set_option maxRecDepth 100000 in
set_option maxHeartbeats 8000000 in
theorem sltf (k1 k2 k3 : Int) (s1 s2 s3 : ByteArray) (Cv : Bool) (hs1 : s1.size ≤ 1000) (hs2 : s2.size ≤ 1000) (hs3 : s3.size ≤ 1000) (w : World) (hT : Lib.Utf8Tabs 0 1 w)
    (hA : sameS k1 s1.data.toList k2 s2.data.toList = true) (hBv : sameS k2 s2.data.toList k3 s3.data.toList = false) (hC : sameS k1 s1.data.toList k3 s3.data.toList = Cv) :
    Calls Tryd.prog 3 #[.agg #[.int .i64 k1, .string s1], .agg #[.int .i64 k2, .string s2], .agg #[.int .i64 k3, .string s3]] w fun e w' => e = .returned (.bool true) ∧ Below w.heap.size w w' := by
  have HA := Lib.hid hA; clear hA
  have HBv := Lib.hid hBv; clear hBv
  have HC := Lib.hid hC; clear hC
  obtain ⟨V, hV⟩ : ∃ V, validS k1 s1.data.toList = V := ⟨_, rfl⟩
  have HV := Lib.hid hV; clear hV
  have HT0 := Lib.hid hT; clear hT
  have d1 : decide ((1000 : Int) < s1.size) = false := by rw [decide_eq_false_iff_not]; omega
  have d2 : decide ((1000 : Int) < s2.size) = false := by rw [decide_eq_false_iff_not]; omega
  have d3 : decide ((1000 : Int) < s3.size) = false := by rw [decide_eq_false_iff_not]; omega
  have HS1 : Hid (s1.size ≤ 16777216) := Lib.hid (by omega)
  have HS2 : Hid (s2.size ≤ 16777216) := Lib.hid (by omega)
  have HS3 : Hid (s3.size ≤ 16777216) := Lib.hid (by omega)
  clear hs1 hs2 hs3
  go_enter Tryd.func3, Tryd.ntmps3
  go_wp2_with fail
  refine (awake_any _ (Utf8Tabs_below HT0.out (by exact (((Below.refl _ _).alloc (Nat.le_refl _) _).alloc (by simp) _).alloc (by simp; omega) _))).mono ?_
  rintro e W0 ⟨rfl, hb⟩
  obtain ⟨hc, -⟩ := bcell hb
  have h10 : W0.cell? ⟨w.heap.size, 0, none⟩ = some (.int .i64 k1) := by rw [hc (w.heap.size) 0 (by first | omega | (simp; done) | (simp; omega) | (simp [go_sem]; done) | (simp [go_sem]; omega))]; simp [go_sem]
  have h11 : W0.cell? ⟨w.heap.size, 1, none⟩ = some (.string s1) := by rw [hc (w.heap.size) 1 (by first | omega | (simp; done) | (simp; omega) | (simp [go_sem]; done) | (simp [go_sem]; omega))]; simp [go_sem]
  have h20 : W0.cell? ⟨w.heap.size + 1, 0, none⟩ = some (.int .i64 k2) := by rw [hc (w.heap.size + 1) 0 (by first | omega | (simp; done) | (simp; omega) | (simp [go_sem]; done) | (simp [go_sem]; omega))]; simp [go_sem]
  have h21 : W0.cell? ⟨w.heap.size + 1, 1, none⟩ = some (.string s2) := by rw [hc (w.heap.size + 1) 1 (by first | omega | (simp; done) | (simp; omega) | (simp [go_sem]; done) | (simp [go_sem]; omega))]; simp [go_sem]
  have h30 : W0.cell? ⟨w.heap.size + 1 + 1, 0, none⟩ = some (.int .i64 k3) := by rw [hc (w.heap.size + 1 + 1) 0 (by first | omega | (simp; done) | (simp; omega) | (simp [go_sem]; done) | (simp [go_sem]; omega))]; simp [go_sem]
  have h31 : W0.cell? ⟨w.heap.size + 1 + 1, 1, none⟩ = some (.string s3) := by rw [hc (w.heap.size + 1 + 1) 1 (by first | omega | (simp; done) | (simp; omega) | (simp [go_sem]; done) | (simp [go_sem]; omega))]; simp [go_sem]
  have hbw : Below w.heap.size w W0 := Below.trans (((Below.refl _ _).alloc (Nat.le_refl _) _).alloc (by simp) _ |>.alloc (by simp; omega) _) (hb.mono (by simp; omega))
  clear hc hb
  have HT := Lib.hid (Utf8Tabs_below HT0.out hbw)
  have HBW := Lib.hid hbw; clear hbw
  go_wp2
  obtain ⟨B, hB⟩ : ∃ B, w.heap.size = B := ⟨_, rfl⟩
  rw [hB] at h10 h11 h20 h21 h30 h31 ⊢
  have HB := Lib.hid hB; clear hB
  have e2 : B + 1 + 1 = B + 2 := rfl
  rw [e2] at h30 h31 ⊢
  clear e2
  have hB1 : B < W0.heap.size := lt_of_cell h10
  have hB2 : B + 1 < W0.heap.size := lt_of_cell h20
  have hB3 : B + 2 < W0.heap.size := lt_of_cell h30
  refine wp_region_R (by kernel_rfl) (by kernel_rfl) (fun x => #[(.agg #[.int .i64 k1, .string s1]), (.agg #[.int .i64 k2, .string s2]), (.agg #[.int .i64 k3, .string s3]), (.pointer (some ⟨B, 0, none⟩)), (.pointer (some ⟨B + 1, 0, none⟩)), (.pointer (some ⟨B + 2, 0, none⟩)), .bool false, x 7, x 8, x 9, x 10, x 11, x 12, x 13, x 14, x 15, x 16, x 17, x 18, x 19, x 20, x 21, x 22, x 23, x 24, x 25, x 26, x 27, x 28, x 29, x 30, x 31, x 32, x 33, x 34, x 35, x 36, x 37, x 38, x 39, x 40, x 41, x 42, x 43, x 44, x 45, x 46, x 47, x 48, x 49, x 50, x 51, x 52, x 53, x 54, x 55, x 56, x 57, x 58, x 59, x 60, x 61, x 62, x 63, x 64, x 65, x 66, x 67, x 68, x 69, x 70]) [31, 32, 33, 34, 35, 36, 37, 38, 39, 7, 8, 9] (sltfJ3 k1 k2 k3 s1 s2 s3 B W0 Cv) W0 (by decide) (by rfl) (fun k v w w' _ h => by unfold sltfJ3 at *; split at h <;> exact h) (by rfl) (Below.refl _ _) ?steps ?last
  case steps =>
    refine ⟨?_, ?_, ?_, ?_, ?_, ?_, ?_, ?_, ?_, ?_, ?_, ?_, trivial⟩
    · intro x w hb hdep
      have c10 := (hb.cell (p := ⟨B, 0, none⟩) hB1).trans h10; have c11 := (hb.cell (p := ⟨B, 1, none⟩) hB1).trans h11
      clear hdep
      go_wp2
      exact ⟨(.agg #[.int .i64 k1, .string s1]), (by simp only [updV] <;> rfl), rfl, Below.refl _ _⟩
    · intro x w hb hdep
      have c20 := (hb.cell (p := ⟨B + 1, 0, none⟩) hB2).trans h20; have c21 := (hb.cell (p := ⟨B + 1, 1, none⟩) hB2).trans h21
      clear hdep
      go_wp2
      exact ⟨(.agg #[.int .i64 k2, .string s2]), (by simp only [updV] <;> rfl), rfl, Below.refl _ _⟩
    · intro x w hb hdep
      have g0 : x 31 = (.agg #[.int .i64 k1, .string s1]) := hdep ⟨0, .data⟩ (by simp) rfl
      have g1 : x 32 = (.agg #[.int .i64 k2, .string s2]) := hdep ⟨1, .data⟩ (by simp) rfl
      clear hdep
      go_wp2_with (go_at_call 9; refine (same_any k1 s1 k2 s2 HS1.out HS2.out _ (Utf8Tabs_below HT.out hb)).mono ?_; rintro e w1 ⟨rfl, hbc⟩; rw [HA.out])
      exact ⟨.bool true, (by simp only [updV, g0, g1] <;> rfl), rfl, hbc⟩
    · intro x w hb hdep
      have c20 := (hb.cell (p := ⟨B + 1, 0, none⟩) hB2).trans h20; have c21 := (hb.cell (p := ⟨B + 1, 1, none⟩) hB2).trans h21
      clear hdep
      go_wp2
      exact ⟨(.agg #[.int .i64 k2, .string s2]), (by simp only [updV] <;> rfl), rfl, Below.refl _ _⟩
    · intro x w hb hdep
      have c30 := (hb.cell (p := ⟨B + 2, 0, none⟩) hB3).trans h30; have c31 := (hb.cell (p := ⟨B + 2, 1, none⟩) hB3).trans h31
      clear hdep
      go_wp2
      exact ⟨(.agg #[.int .i64 k3, .string s3]), (by simp only [updV] <;> rfl), rfl, Below.refl _ _⟩
    · intro x w hb hdep
      have g3 : x 34 = (.agg #[.int .i64 k2, .string s2]) := hdep ⟨3, .data⟩ (by simp) rfl
      have g4 : x 35 = (.agg #[.int .i64 k3, .string s3]) := hdep ⟨4, .data⟩ (by simp) rfl
      clear hdep
      go_wp2_with (go_at_call 9; refine (same_any k2 s2 k3 s3 HS2.out HS3.out _ (Utf8Tabs_below HT.out hb)).mono ?_; rintro e w1 ⟨rfl, hbc⟩; rw [HBv.out])
      exact ⟨.bool false, (by simp only [updV, g3, g4] <;> rfl), rfl, hbc⟩
    · intro x w hb hdep
      have c10 := (hb.cell (p := ⟨B, 0, none⟩) hB1).trans h10; have c11 := (hb.cell (p := ⟨B, 1, none⟩) hB1).trans h11
      clear hdep
      go_wp2
      exact ⟨(.agg #[.int .i64 k1, .string s1]), (by simp only [updV] <;> rfl), rfl, Below.refl _ _⟩
    · intro x w hb hdep
      have c30 := (hb.cell (p := ⟨B + 2, 0, none⟩) hB3).trans h30; have c31 := (hb.cell (p := ⟨B + 2, 1, none⟩) hB3).trans h31
      clear hdep
      go_wp2
      exact ⟨(.agg #[.int .i64 k3, .string s3]), (by simp only [updV] <;> rfl), rfl, Below.refl _ _⟩
    · intro x w hb hdep
      have g6 : x 37 = (.agg #[.int .i64 k1, .string s1]) := hdep ⟨6, .data⟩ (by simp) rfl
      have g7 : x 38 = (.agg #[.int .i64 k3, .string s3]) := hdep ⟨7, .data⟩ (by simp) rfl
      clear hdep
      go_wp2_with (go_at_call 9; refine (same_any k1 s1 k3 s3 HS1.out HS3.out _ (Utf8Tabs_below HT.out hb)).mono ?_; rintro e w1 ⟨rfl, hbc⟩; rw [HC.out])
      exact ⟨.bool Cv, (by simp only [updV, g6, g7] <;> rfl), rfl, hbc⟩
    · intro x w hb hdep
      have g2 : x 33 = .bool true := hdep ⟨2, .data⟩ (by simp) rfl
      clear hdep
      go_wp2
      exact ⟨.bool true, (by simp only [updV, g2] <;> rfl), rfl, Below.refl _ _⟩
    · intro x w hb hdep
      have g5 : x 36 = .bool false := hdep ⟨5, .data⟩ (by simp) rfl
      clear hdep
      go_wp2
      exact ⟨.bool false, (by simp only [updV, g5] <;> rfl), rfl, Below.refl _ _⟩
    · intro x w hb hdep
      have g8 : x 39 = .bool Cv := hdep ⟨8, .data⟩ (by simp) rfl
      clear hdep
      go_wp2
      exact ⟨.bool Cv, (by simp only [updV, g8] <;> rfl), rfl, Below.refl _ _⟩
  case last =>
    intro x w2 hb h
    have g9 : x 7 = .bool true := h 9 (by decide)
    have g10 : x 8 = .bool false := h 10 (by decide)
    have g11 : x 9 = .bool Cv := h 11 (by decide)
    clear h
    simp only [g9, g10, g11]
    clear g9 g10 g11
    have hb3 := hb; clear hb
    go_wp2
    refine wp_region_R (by kernel_rfl) (by kernel_rfl) (fun x => #[(.agg #[.int .i64 k1, .string s1]), (.agg #[.int .i64 k2, .string s2]), (.agg #[.int .i64 k3, .string s3]), (.pointer (some ⟨B, 0, none⟩)), (.pointer (some ⟨B + 1, 0, none⟩)), (.pointer (some ⟨B + 2, 0, none⟩)), x 6, .bool true, .bool false, .bool Cv, x 10, x 11, x 12, x 13, x 14, x 15, x 16, x 17, x 18, x 19, x 20, x 21, x 22, x 23, x 24, x 25, x 26, x 27, x 28, x 29, x 30, x 31, x 32, x 33, x 34, x 35, x 36, x 37, x 38, x 39, x 40, x 41, x 42, x 43, x 44, x 45, x 46, x 47, x 48, x 49, x 50, x 51, x 52, x 53, x 54, x 55, x 56, x 57, x 58, x 59, x 60, x 61, x 62, x 63, x 64, x 65, x 66, x 67, x 68, x 69, x 70]) [40, 41, 42, 43, 44, 45, 46, 47, 48, 49, 50, 51, 52, 53, 54, 55, 56, 57, 58, 59, 60, 61, 62, 63, 64, 65, 66, 67, 68, 69, 70, 6] (sltfJ4 k1 k2 k3 s1 s2 s3 B W0 Cv V) W0 (by decide) (by rfl) (fun k v w w' _ h => by unfold sltfJ4 at *; split at h <;> exact h) (by rfl) hb3 ?steps ?last
    case steps =>
      refine ⟨?_, ?_, ?_, ?_, ?_, ?_, ?_, ?_, ?_, ?_, ?_, ?_, ?_, ?_, ?_, ?_, ?_, ?_, ?_, ?_, ?_, ?_, ?_, ?_, ?_, ?_, ?_, ?_, ?_, ?_, ?_, ?_, trivial⟩
      · intro x w hb hdep
        clear hdep
        go_wp2
        exact ⟨.bool true, (by simp only [updV] <;> rfl), rfl, Below.refl _ _⟩
      · intro x w hb hdep
        have c10 := (hb.cell (p := ⟨B, 0, none⟩) hB1).trans h10; have c11 := (hb.cell (p := ⟨B, 1, none⟩) hB1).trans h11
        clear hdep
        go_wp2
        exact ⟨(.agg #[.int .i64 k1, .string s1]), (by simp only [updV] <;> rfl), rfl, Below.refl _ _⟩
      · intro x w hb hdep
        have c20 := (hb.cell (p := ⟨B + 1, 0, none⟩) hB2).trans h20; have c21 := (hb.cell (p := ⟨B + 1, 1, none⟩) hB2).trans h21
        clear hdep
        go_wp2
        exact ⟨(.agg #[.int .i64 k2, .string s2]), (by simp only [updV] <;> rfl), rfl, Below.refl _ _⟩
      · intro x w hb hdep
        have g1 : x 41 = (.agg #[.int .i64 k1, .string s1]) := hdep ⟨1, .data⟩ (by simp) rfl
        have g2 : x 42 = (.agg #[.int .i64 k2, .string s2]) := hdep ⟨2, .data⟩ (by simp) rfl
        clear hdep
        go_wp2_with (go_at_call 10; refine (rSame_any k1 s1 k2 s2 HS1.out HS2.out _).mono ?_; rintro e w1 ⟨rfl, hbc⟩; rw [HA.out])
        exact ⟨.bool true, (by simp only [updV, g1, g2] <;> rfl), rfl, hbc⟩
      · intro x w hb hdep
        have g0 : x 40 = .bool true := hdep ⟨0, .data⟩ (by simp) rfl
        have g3 : x 43 = .bool true := hdep ⟨3, .data⟩ (by simp) rfl
        clear hdep
        go_wp2
        exact ⟨.bool true, (by simp only [updV, g0, g3] <;> rfl), rfl, Below.refl _ _⟩
      · intro x w hb hdep
        have g4 : x 44 = .bool true := hdep ⟨4, .data⟩ (by simp) rfl
        clear hdep
        go_wp2
        exact ⟨.bool true, (by simp only [updV, g4] <;> rfl), rfl, Below.refl _ _⟩
      · intro x w hb hdep
        have g5 : x 45 = .bool true := hdep ⟨5, .guard⟩ (by simp) rfl
        clear hdep
        go_wp2
        exact ⟨.bool true, (by simp only [updV, g5] <;> rfl), rfl, Below.refl _ _⟩
      · intro x w hb hdep
        have g5 : x 45 = .bool true := hdep ⟨5, .guard⟩ (by simp) rfl
        have c20 := (hb.cell (p := ⟨B + 1, 0, none⟩) hB2).trans h20; have c21 := (hb.cell (p := ⟨B + 1, 1, none⟩) hB2).trans h21
        clear hdep
        go_wp2
        exact ⟨(.agg #[.int .i64 k2, .string s2]), (by simp only [updV, g5] <;> rfl), rfl, Below.refl _ _⟩
      · intro x w hb hdep
        have g5 : x 45 = .bool true := hdep ⟨5, .guard⟩ (by simp) rfl
        have c10 := (hb.cell (p := ⟨B, 0, none⟩) hB1).trans h10; have c11 := (hb.cell (p := ⟨B, 1, none⟩) hB1).trans h11
        clear hdep
        go_wp2
        exact ⟨(.agg #[.int .i64 k1, .string s1]), (by simp only [updV, g5] <;> rfl), rfl, Below.refl _ _⟩
      · intro x w hb hdep
        have g7 : x 47 = (.agg #[.int .i64 k2, .string s2]) := hdep ⟨7, .data⟩ (by simp) rfl
        have g8 : x 48 = (.agg #[.int .i64 k1, .string s1]) := hdep ⟨8, .data⟩ (by simp) rfl
        have g5 : x 45 = .bool true := hdep ⟨5, .guard⟩ (by simp) rfl
        clear hdep
        go_wp2_with (go_at_call 9; refine (same_any k2 s2 k1 s1 HS2.out HS1.out _ (Utf8Tabs_below HT.out hb)).mono ?_; rintro e w1 ⟨rfl, hbc⟩; rw [sameS_comm, HA.out])
        exact ⟨.bool true, (by simp only [updV, g7, g8, g5] <;> rfl), rfl, hbc⟩
      · intro x w hb hdep
        have g6 : x 46 = .bool true := hdep ⟨6, .data⟩ (by simp) rfl
        have g9 : x 49 = .bool true := hdep ⟨9, .data⟩ (by simp) rfl
        have g5 : x 45 = .bool true := hdep ⟨5, .guard⟩ (by simp) rfl
        clear hdep
        go_wp2
        exact ⟨.bool true, (by simp only [updV, g6, g9, g5] <;> rfl), rfl, Below.refl _ _⟩
      · intro x w hb hdep
        have g5 : x 45 = .bool true := hdep ⟨5, .data⟩ (by simp) rfl
        have g10 : x 50 = .bool true := hdep ⟨10, .data⟩ (by simp) rfl
        clear hdep
        go_wp2
        exact ⟨.bool true, (by simp only [updV, g5, g10] <;> rfl), rfl, Below.refl _ _⟩
      · intro x w hb hdep
        have g11 : x 51 = .bool true := hdep ⟨11, .data⟩ (by simp) rfl
        clear hdep
        go_wp2
        exact ⟨.bool true, (by simp only [updV, g11] <;> rfl), rfl, Below.refl _ _⟩
      · intro x w hb hdep
        have g12 : x 52 = .bool true := hdep ⟨12, .guard⟩ (by simp) rfl
        have c10 := (hb.cell (p := ⟨B, 0, none⟩) hB1).trans h10; have c11 := (hb.cell (p := ⟨B, 1, none⟩) hB1).trans h11
        clear hdep
        go_wp2
        exact ⟨(.agg #[.int .i64 k1, .string s1]), (by simp only [updV, g12] <;> rfl), rfl, Below.refl _ _⟩
      · intro x w hb hdep
        have g12 : x 52 = .bool true := hdep ⟨12, .guard⟩ (by simp) rfl
        have c10 := (hb.cell (p := ⟨B, 0, none⟩) hB1).trans h10; have c11 := (hb.cell (p := ⟨B, 1, none⟩) hB1).trans h11
        clear hdep
        go_wp2
        exact ⟨(.agg #[.int .i64 k1, .string s1]), (by simp only [updV, g12] <;> rfl), rfl, Below.refl _ _⟩
      · intro x w hb hdep
        have g13 : x 53 = (.agg #[.int .i64 k1, .string s1]) := hdep ⟨13, .data⟩ (by simp) rfl
        have g14 : x 54 = (.agg #[.int .i64 k1, .string s1]) := hdep ⟨14, .data⟩ (by simp) rfl
        have g12 : x 52 = .bool true := hdep ⟨12, .guard⟩ (by simp) rfl
        clear hdep
        go_wp2_with (go_at_call 9; refine (same_any k1 s1 k1 s1 HS1.out HS1.out _ (Utf8Tabs_below HT.out hb)).mono ?_; rintro e w1 ⟨rfl, hbc⟩; rw [sameS_self, HV.out])
        exact ⟨.bool V, (by simp only [updV, g13, g14, g12] <;> rfl), rfl, hbc⟩
      · intro x w hb hdep
        have g12 : x 52 = .bool true := hdep ⟨12, .guard⟩ (by simp) rfl
        have c10 := (hb.cell (p := ⟨B, 0, none⟩) hB1).trans h10; have c11 := (hb.cell (p := ⟨B, 1, none⟩) hB1).trans h11
        clear hdep
        go_wp2
        exact ⟨(.agg #[.int .i64 k1, .string s1]), (by simp only [updV, g12] <;> rfl), rfl, Below.refl _ _⟩
      · intro x w hb hdep
        have g16 : x 56 = (.agg #[.int .i64 k1, .string s1]) := hdep ⟨16, .data⟩ (by simp) rfl
        have g12 : x 52 = .bool true := hdep ⟨12, .guard⟩ (by simp) rfl
        clear hdep
        go_wp2_with (go_at_call 11; refine (rValid_any k1 s1 HS1.out _).mono ?_; rintro e w1 ⟨rfl, hbc⟩; rw [HV.out])
        exact ⟨.bool V, (by simp only [updV, g16, g12] <;> rfl), rfl, hbc⟩
      · intro x w hb hdep
        have g15 : x 55 = .bool V := hdep ⟨15, .data⟩ (by simp) rfl
        have g17 : x 57 = .bool V := hdep ⟨17, .data⟩ (by simp) rfl
        have g12 : x 52 = .bool true := hdep ⟨12, .guard⟩ (by simp) rfl
        clear hdep
        go_wp2
        exact ⟨.bool true, (by simp only [updV, g15, g17, g12] <;> rfl), rfl, Below.refl _ _⟩
      · intro x w hb hdep
        have g12 : x 52 = .bool true := hdep ⟨12, .data⟩ (by simp) rfl
        have g18 : x 58 = .bool true := hdep ⟨18, .data⟩ (by simp) rfl
        clear hdep
        go_wp2
        exact ⟨.bool true, (by simp only [updV, g12, g18] <;> rfl), rfl, Below.refl _ _⟩
      · intro x w hb hdep
        have g19 : x 59 = .bool true := hdep ⟨19, .data⟩ (by simp) rfl
        clear hdep
        go_wp2
        exact ⟨.bool true, (by simp only [updV, g19] <;> rfl), rfl, Below.refl _ _⟩
      · intro x w hb hdep
        have g20 : x 60 = .bool true := hdep ⟨20, .guard⟩ (by simp) rfl
        clear hdep
        go_wp2
        exact ⟨.bool true, (by simp only [updV, g20] <;> rfl), rfl, Below.refl _ _⟩
      · intro x w hb hdep
        have g21 : x 61 = .bool true := hdep ⟨21, .data⟩ (by simp) rfl
        have g20 : x 60 = .bool true := hdep ⟨20, .guard⟩ (by simp) rfl
        clear hdep
        go_wp2
        exact ⟨.bool false, (by simp only [updV, g21, g20] <;> rfl), rfl, Below.refl _ _⟩
      · intro x w hb hdep
        have g22 : x 62 = .bool false := hdep ⟨22, .data⟩ (by simp) rfl
        have g20 : x 60 = .bool true := hdep ⟨20, .guard⟩ (by simp) rfl
        clear hdep
        go_wp2
        exact ⟨.bool false, (by simp only [updV, g22, g20] <;> rfl), rfl, Below.refl _ _⟩
      · intro x w hb hdep
        have g23 : x 63 = .bool false := hdep ⟨23, .guard⟩ (by simp) rfl
        clear hdep
        go_wp2
        exact ⟨.bool false, (by simp only [updV, g23] <;> rfl), rfl, Below.refl _ _⟩
      · intro x w hb hdep
        have g24 : x 64 = .bool false := hdep ⟨24, .data⟩ (by simp) rfl
        have g23 : x 63 = .bool false := hdep ⟨23, .guard⟩ (by simp) rfl
        clear hdep
        go_wp2
        exact ⟨.bool true, (by simp only [updV, g24, g23] <;> rfl), rfl, Below.refl _ _⟩
      · intro x w hb hdep
        have g23 : x 63 = .bool false := hdep ⟨23, .data⟩ (by simp) rfl
        have g25 : x 65 = .bool true := hdep ⟨25, .data⟩ (by simp) rfl
        have g20 : x 60 = .bool true := hdep ⟨20, .guard⟩ (by simp) rfl
        clear hdep
        go_wp2
        exact ⟨.bool true, (by simp only [updV, g23, g25, g20] <;> rfl), rfl, Below.refl _ _⟩
      · intro x w hb hdep
        have g26 : x 66 = .bool true := hdep ⟨26, .data⟩ (by simp) rfl
        have g20 : x 60 = .bool true := hdep ⟨20, .guard⟩ (by simp) rfl
        clear hdep
        go_wp2
        exact ⟨.bool true, (by simp only [updV, g26, g20] <;> rfl), rfl, Below.refl _ _⟩
      · intro x w hb hdep
        have g27 : x 67 = .bool true := hdep ⟨27, .guard⟩ (by simp) rfl
        clear hdep
        go_wp2
        exact ⟨undef, (by simp only [updV, g27] <;> rfl), trivial, Below.refl _ _⟩
      · intro x w hb hdep
        have g27 : x 67 = .bool true := hdep ⟨27, .data⟩ (by simp) rfl
        have g20 : x 60 = .bool true := hdep ⟨20, .guard⟩ (by simp) rfl
        clear hdep
        go_wp2
        exact ⟨.bool true, (by simp only [updV, g27, g20] <;> rfl), rfl, Below.refl _ _⟩
      · intro x w hb hdep
        have g20 : x 60 = .bool true := hdep ⟨20, .data⟩ (by simp) rfl
        have g29 : x 69 = .bool true := hdep ⟨29, .data⟩ (by simp) rfl
        clear hdep
        go_wp2
        exact ⟨.bool true, (by simp only [updV, g20, g29] <;> rfl), rfl, Below.refl _ _⟩
      · intro x w hb hdep
        have g30 : x 70 = .bool true := hdep ⟨30, .data⟩ (by simp) rfl
        clear hdep
        go_wp2
        exact ⟨.bool true, (by simp only [updV, g30] <;> rfl), rfl, Below.refl _ _⟩
    case last =>
      intro x w2 hb h
      have g31 : x 6 = .bool true := h 31 (by decide)
      clear h
      simp only [g31]
      clear g31
      go_wp2
      go_ret
      exact ⟨rfl, by rw [HB.out]; exact (by rw [← HB.out]; exact HBW.out : Below B w W0).trans (hb.mono (by have := HBW.out.size; rw [HB.out] at this; exact this))⟩

/-- What each operation's value is known to be. -/
def slfxJ3 (k1 k2 k3 : Int) (s1 s2 s3 : ByteArray) (B : Nat) (W0 : World) (Bv : Bool) (Cv : Bool) : Nat → Value → World → Prop
  | 0, v, _ => v = (.agg #[.int .i64 k1, .string s1])
  | 1, v, _ => v = (.agg #[.int .i64 k2, .string s2])
  | 2, v, _ => v = .bool false
  | 3, v, _ => v = (.agg #[.int .i64 k2, .string s2])
  | 4, v, _ => v = (.agg #[.int .i64 k3, .string s3])
  | 5, v, _ => v = .bool Bv
  | 6, v, _ => v = (.agg #[.int .i64 k1, .string s1])
  | 7, v, _ => v = (.agg #[.int .i64 k3, .string s3])
  | 8, v, _ => v = .bool Cv
  | 9, v, _ => v = .bool false
  | 10, v, _ => v = .bool Bv
  | 11, v, _ => v = .bool Cv
  | _, _, _ => True

/-- What each operation's value is known to be. -/
def slfxJ4 (k1 k2 k3 : Int) (s1 s2 s3 : ByteArray) (B : Nat) (W0 : World) (Bv : Bool) (Cv : Bool) (V : Bool) : Nat → Value → World → Prop
  | 0, v, _ => v = .bool false
  | 1, v, _ => v = (.agg #[.int .i64 k1, .string s1])
  | 2, v, _ => v = (.agg #[.int .i64 k2, .string s2])
  | 3, v, _ => v = .bool false
  | 4, v, _ => v = .bool true
  | 5, v, _ => v = .bool true
  | 6, v, _ => v = .bool false
  | 7, v, _ => v = (.agg #[.int .i64 k2, .string s2])
  | 8, v, _ => v = (.agg #[.int .i64 k1, .string s1])
  | 9, v, _ => v = .bool false
  | 10, v, _ => v = .bool true
  | 11, v, _ => v = .bool true
  | 12, v, _ => v = .bool true
  | 13, v, _ => v = (.agg #[.int .i64 k1, .string s1])
  | 14, v, _ => v = (.agg #[.int .i64 k1, .string s1])
  | 15, v, _ => v = .bool V
  | 16, v, _ => v = (.agg #[.int .i64 k1, .string s1])
  | 17, v, _ => v = .bool V
  | 18, v, _ => v = .bool true
  | 19, v, _ => v = .bool true
  | 20, v, _ => v = .bool true
  | 21, v, _ => v = .bool false
  | 22, v, _ => v = .bool true
  | 23, v, _ => v = .bool true
  | 26, v, _ => v = .bool true
  | 27, v, _ => v = .bool true
  | 29, v, _ => v = .bool true
  | 30, v, _ => v = .bool true
  | 31, v, _ => v = .bool true
  | _, _, _ => True

set_option maxRecDepth 100000 in
set_option maxHeartbeats 8000000 in
theorem slfx (k1 k2 k3 : Int) (s1 s2 s3 : ByteArray) (Bv : Bool) (Cv : Bool) (hs1 : s1.size ≤ 1000) (hs2 : s2.size ≤ 1000) (hs3 : s3.size ≤ 1000) (w : World) (hT : Lib.Utf8Tabs 0 1 w)
    (hA : sameS k1 s1.data.toList k2 s2.data.toList = false) (hBv : sameS k2 s2.data.toList k3 s3.data.toList = Bv) (hC : sameS k1 s1.data.toList k3 s3.data.toList = Cv) :
    Calls Tryd.prog 3 #[.agg #[.int .i64 k1, .string s1], .agg #[.int .i64 k2, .string s2], .agg #[.int .i64 k3, .string s3]] w fun e w' => e = .returned (.bool true) ∧ Below w.heap.size w w' := by
  have HA := Lib.hid hA; clear hA
  have HBv := Lib.hid hBv; clear hBv
  have HC := Lib.hid hC; clear hC
  obtain ⟨V, hV⟩ : ∃ V, validS k1 s1.data.toList = V := ⟨_, rfl⟩
  have HV := Lib.hid hV; clear hV
  have HT0 := Lib.hid hT; clear hT
  have d1 : decide ((1000 : Int) < s1.size) = false := by rw [decide_eq_false_iff_not]; omega
  have d2 : decide ((1000 : Int) < s2.size) = false := by rw [decide_eq_false_iff_not]; omega
  have d3 : decide ((1000 : Int) < s3.size) = false := by rw [decide_eq_false_iff_not]; omega
  have HS1 : Hid (s1.size ≤ 16777216) := Lib.hid (by omega)
  have HS2 : Hid (s2.size ≤ 16777216) := Lib.hid (by omega)
  have HS3 : Hid (s3.size ≤ 16777216) := Lib.hid (by omega)
  clear hs1 hs2 hs3
  go_enter Tryd.func3, Tryd.ntmps3
  go_wp2_with fail
  refine (awake_any _ (Utf8Tabs_below HT0.out (by exact (((Below.refl _ _).alloc (Nat.le_refl _) _).alloc (by simp) _).alloc (by simp; omega) _))).mono ?_
  rintro e W0 ⟨rfl, hb⟩
  obtain ⟨hc, -⟩ := bcell hb
  have h10 : W0.cell? ⟨w.heap.size, 0, none⟩ = some (.int .i64 k1) := by rw [hc (w.heap.size) 0 (by first | omega | (simp; done) | (simp; omega) | (simp [go_sem]; done) | (simp [go_sem]; omega))]; simp [go_sem]
  have h11 : W0.cell? ⟨w.heap.size, 1, none⟩ = some (.string s1) := by rw [hc (w.heap.size) 1 (by first | omega | (simp; done) | (simp; omega) | (simp [go_sem]; done) | (simp [go_sem]; omega))]; simp [go_sem]
  have h20 : W0.cell? ⟨w.heap.size + 1, 0, none⟩ = some (.int .i64 k2) := by rw [hc (w.heap.size + 1) 0 (by first | omega | (simp; done) | (simp; omega) | (simp [go_sem]; done) | (simp [go_sem]; omega))]; simp [go_sem]
  have h21 : W0.cell? ⟨w.heap.size + 1, 1, none⟩ = some (.string s2) := by rw [hc (w.heap.size + 1) 1 (by first | omega | (simp; done) | (simp; omega) | (simp [go_sem]; done) | (simp [go_sem]; omega))]; simp [go_sem]
  have h30 : W0.cell? ⟨w.heap.size + 1 + 1, 0, none⟩ = some (.int .i64 k3) := by rw [hc (w.heap.size + 1 + 1) 0 (by first | omega | (simp; done) | (simp; omega) | (simp [go_sem]; done) | (simp [go_sem]; omega))]; simp [go_sem]
  have h31 : W0.cell? ⟨w.heap.size + 1 + 1, 1, none⟩ = some (.string s3) := by rw [hc (w.heap.size + 1 + 1) 1 (by first | omega | (simp; done) | (simp; omega) | (simp [go_sem]; done) | (simp [go_sem]; omega))]; simp [go_sem]
  have hbw : Below w.heap.size w W0 := Below.trans (((Below.refl _ _).alloc (Nat.le_refl _) _).alloc (by simp) _ |>.alloc (by simp; omega) _) (hb.mono (by simp; omega))
  clear hc hb
  have HT := Lib.hid (Utf8Tabs_below HT0.out hbw)
  have HBW := Lib.hid hbw; clear hbw
  go_wp2
  obtain ⟨B, hB⟩ : ∃ B, w.heap.size = B := ⟨_, rfl⟩
  rw [hB] at h10 h11 h20 h21 h30 h31 ⊢
  have HB := Lib.hid hB; clear hB
  have e2 : B + 1 + 1 = B + 2 := rfl
  rw [e2] at h30 h31 ⊢
  clear e2
  have hB1 : B < W0.heap.size := lt_of_cell h10
  have hB2 : B + 1 < W0.heap.size := lt_of_cell h20
  have hB3 : B + 2 < W0.heap.size := lt_of_cell h30
  refine wp_region_R (by kernel_rfl) (by kernel_rfl) (fun x => #[(.agg #[.int .i64 k1, .string s1]), (.agg #[.int .i64 k2, .string s2]), (.agg #[.int .i64 k3, .string s3]), (.pointer (some ⟨B, 0, none⟩)), (.pointer (some ⟨B + 1, 0, none⟩)), (.pointer (some ⟨B + 2, 0, none⟩)), .bool false, x 7, x 8, x 9, x 10, x 11, x 12, x 13, x 14, x 15, x 16, x 17, x 18, x 19, x 20, x 21, x 22, x 23, x 24, x 25, x 26, x 27, x 28, x 29, x 30, x 31, x 32, x 33, x 34, x 35, x 36, x 37, x 38, x 39, x 40, x 41, x 42, x 43, x 44, x 45, x 46, x 47, x 48, x 49, x 50, x 51, x 52, x 53, x 54, x 55, x 56, x 57, x 58, x 59, x 60, x 61, x 62, x 63, x 64, x 65, x 66, x 67, x 68, x 69, x 70]) [31, 32, 33, 34, 35, 36, 37, 38, 39, 7, 8, 9] (slfxJ3 k1 k2 k3 s1 s2 s3 B W0 Bv Cv) W0 (by decide) (by rfl) (fun k v w w' _ h => by unfold slfxJ3 at *; split at h <;> exact h) (by rfl) (Below.refl _ _) ?steps ?last
  case steps =>
    refine ⟨?_, ?_, ?_, ?_, ?_, ?_, ?_, ?_, ?_, ?_, ?_, ?_, trivial⟩
    · intro x w hb hdep
      have c10 := (hb.cell (p := ⟨B, 0, none⟩) hB1).trans h10; have c11 := (hb.cell (p := ⟨B, 1, none⟩) hB1).trans h11
      clear hdep
      go_wp2
      exact ⟨(.agg #[.int .i64 k1, .string s1]), (by simp only [updV] <;> rfl), rfl, Below.refl _ _⟩
    · intro x w hb hdep
      have c20 := (hb.cell (p := ⟨B + 1, 0, none⟩) hB2).trans h20; have c21 := (hb.cell (p := ⟨B + 1, 1, none⟩) hB2).trans h21
      clear hdep
      go_wp2
      exact ⟨(.agg #[.int .i64 k2, .string s2]), (by simp only [updV] <;> rfl), rfl, Below.refl _ _⟩
    · intro x w hb hdep
      have g0 : x 31 = (.agg #[.int .i64 k1, .string s1]) := hdep ⟨0, .data⟩ (by simp) rfl
      have g1 : x 32 = (.agg #[.int .i64 k2, .string s2]) := hdep ⟨1, .data⟩ (by simp) rfl
      clear hdep
      go_wp2_with (go_at_call 9; refine (same_any k1 s1 k2 s2 HS1.out HS2.out _ (Utf8Tabs_below HT.out hb)).mono ?_; rintro e w1 ⟨rfl, hbc⟩; rw [HA.out])
      exact ⟨.bool false, (by simp only [updV, g0, g1] <;> rfl), rfl, hbc⟩
    · intro x w hb hdep
      have c20 := (hb.cell (p := ⟨B + 1, 0, none⟩) hB2).trans h20; have c21 := (hb.cell (p := ⟨B + 1, 1, none⟩) hB2).trans h21
      clear hdep
      go_wp2
      exact ⟨(.agg #[.int .i64 k2, .string s2]), (by simp only [updV] <;> rfl), rfl, Below.refl _ _⟩
    · intro x w hb hdep
      have c30 := (hb.cell (p := ⟨B + 2, 0, none⟩) hB3).trans h30; have c31 := (hb.cell (p := ⟨B + 2, 1, none⟩) hB3).trans h31
      clear hdep
      go_wp2
      exact ⟨(.agg #[.int .i64 k3, .string s3]), (by simp only [updV] <;> rfl), rfl, Below.refl _ _⟩
    · intro x w hb hdep
      have g3 : x 34 = (.agg #[.int .i64 k2, .string s2]) := hdep ⟨3, .data⟩ (by simp) rfl
      have g4 : x 35 = (.agg #[.int .i64 k3, .string s3]) := hdep ⟨4, .data⟩ (by simp) rfl
      clear hdep
      go_wp2_with (go_at_call 9; refine (same_any k2 s2 k3 s3 HS2.out HS3.out _ (Utf8Tabs_below HT.out hb)).mono ?_; rintro e w1 ⟨rfl, hbc⟩; rw [HBv.out])
      exact ⟨.bool Bv, (by simp only [updV, g3, g4] <;> rfl), rfl, hbc⟩
    · intro x w hb hdep
      have c10 := (hb.cell (p := ⟨B, 0, none⟩) hB1).trans h10; have c11 := (hb.cell (p := ⟨B, 1, none⟩) hB1).trans h11
      clear hdep
      go_wp2
      exact ⟨(.agg #[.int .i64 k1, .string s1]), (by simp only [updV] <;> rfl), rfl, Below.refl _ _⟩
    · intro x w hb hdep
      have c30 := (hb.cell (p := ⟨B + 2, 0, none⟩) hB3).trans h30; have c31 := (hb.cell (p := ⟨B + 2, 1, none⟩) hB3).trans h31
      clear hdep
      go_wp2
      exact ⟨(.agg #[.int .i64 k3, .string s3]), (by simp only [updV] <;> rfl), rfl, Below.refl _ _⟩
    · intro x w hb hdep
      have g6 : x 37 = (.agg #[.int .i64 k1, .string s1]) := hdep ⟨6, .data⟩ (by simp) rfl
      have g7 : x 38 = (.agg #[.int .i64 k3, .string s3]) := hdep ⟨7, .data⟩ (by simp) rfl
      clear hdep
      go_wp2_with (go_at_call 9; refine (same_any k1 s1 k3 s3 HS1.out HS3.out _ (Utf8Tabs_below HT.out hb)).mono ?_; rintro e w1 ⟨rfl, hbc⟩; rw [HC.out])
      exact ⟨.bool Cv, (by simp only [updV, g6, g7] <;> rfl), rfl, hbc⟩
    · intro x w hb hdep
      have g2 : x 33 = .bool false := hdep ⟨2, .data⟩ (by simp) rfl
      clear hdep
      go_wp2
      exact ⟨.bool false, (by simp only [updV, g2] <;> rfl), rfl, Below.refl _ _⟩
    · intro x w hb hdep
      have g5 : x 36 = .bool Bv := hdep ⟨5, .data⟩ (by simp) rfl
      clear hdep
      go_wp2
      exact ⟨.bool Bv, (by simp only [updV, g5] <;> rfl), rfl, Below.refl _ _⟩
    · intro x w hb hdep
      have g8 : x 39 = .bool Cv := hdep ⟨8, .data⟩ (by simp) rfl
      clear hdep
      go_wp2
      exact ⟨.bool Cv, (by simp only [updV, g8] <;> rfl), rfl, Below.refl _ _⟩
  case last =>
    intro x w2 hb h
    have g9 : x 7 = .bool false := h 9 (by decide)
    have g10 : x 8 = .bool Bv := h 10 (by decide)
    have g11 : x 9 = .bool Cv := h 11 (by decide)
    clear h
    simp only [g9, g10, g11]
    clear g9 g10 g11
    have hb3 := hb; clear hb
    go_wp2
    refine wp_region_R (by kernel_rfl) (by kernel_rfl) (fun x => #[(.agg #[.int .i64 k1, .string s1]), (.agg #[.int .i64 k2, .string s2]), (.agg #[.int .i64 k3, .string s3]), (.pointer (some ⟨B, 0, none⟩)), (.pointer (some ⟨B + 1, 0, none⟩)), (.pointer (some ⟨B + 2, 0, none⟩)), x 6, .bool false, .bool Bv, .bool Cv, x 10, x 11, x 12, x 13, x 14, x 15, x 16, x 17, x 18, x 19, x 20, x 21, x 22, x 23, x 24, x 25, x 26, x 27, x 28, x 29, x 30, x 31, x 32, x 33, x 34, x 35, x 36, x 37, x 38, x 39, x 40, x 41, x 42, x 43, x 44, x 45, x 46, x 47, x 48, x 49, x 50, x 51, x 52, x 53, x 54, x 55, x 56, x 57, x 58, x 59, x 60, x 61, x 62, x 63, x 64, x 65, x 66, x 67, x 68, x 69, x 70]) [40, 41, 42, 43, 44, 45, 46, 47, 48, 49, 50, 51, 52, 53, 54, 55, 56, 57, 58, 59, 60, 61, 62, 63, 64, 65, 66, 67, 68, 69, 70, 6] (slfxJ4 k1 k2 k3 s1 s2 s3 B W0 Bv Cv V) W0 (by decide) (by rfl) (fun k v w w' _ h => by unfold slfxJ4 at *; split at h <;> exact h) (by rfl) hb3 ?steps ?last
    case steps =>
      refine ⟨?_, ?_, ?_, ?_, ?_, ?_, ?_, ?_, ?_, ?_, ?_, ?_, ?_, ?_, ?_, ?_, ?_, ?_, ?_, ?_, ?_, ?_, ?_, ?_, ?_, ?_, ?_, ?_, ?_, ?_, ?_, ?_, trivial⟩
      · intro x w hb hdep
        clear hdep
        go_wp2
        exact ⟨.bool false, (by simp only [updV] <;> rfl), rfl, Below.refl _ _⟩
      · intro x w hb hdep
        have c10 := (hb.cell (p := ⟨B, 0, none⟩) hB1).trans h10; have c11 := (hb.cell (p := ⟨B, 1, none⟩) hB1).trans h11
        clear hdep
        go_wp2
        exact ⟨(.agg #[.int .i64 k1, .string s1]), (by simp only [updV] <;> rfl), rfl, Below.refl _ _⟩
      · intro x w hb hdep
        have c20 := (hb.cell (p := ⟨B + 1, 0, none⟩) hB2).trans h20; have c21 := (hb.cell (p := ⟨B + 1, 1, none⟩) hB2).trans h21
        clear hdep
        go_wp2
        exact ⟨(.agg #[.int .i64 k2, .string s2]), (by simp only [updV] <;> rfl), rfl, Below.refl _ _⟩
      · intro x w hb hdep
        have g1 : x 41 = (.agg #[.int .i64 k1, .string s1]) := hdep ⟨1, .data⟩ (by simp) rfl
        have g2 : x 42 = (.agg #[.int .i64 k2, .string s2]) := hdep ⟨2, .data⟩ (by simp) rfl
        clear hdep
        go_wp2_with (go_at_call 10; refine (rSame_any k1 s1 k2 s2 HS1.out HS2.out _).mono ?_; rintro e w1 ⟨rfl, hbc⟩; rw [HA.out])
        exact ⟨.bool false, (by simp only [updV, g1, g2] <;> rfl), rfl, hbc⟩
      · intro x w hb hdep
        have g0 : x 40 = .bool false := hdep ⟨0, .data⟩ (by simp) rfl
        have g3 : x 43 = .bool false := hdep ⟨3, .data⟩ (by simp) rfl
        clear hdep
        go_wp2
        exact ⟨.bool true, (by simp only [updV, g0, g3] <;> rfl), rfl, Below.refl _ _⟩
      · intro x w hb hdep
        have g4 : x 44 = .bool true := hdep ⟨4, .data⟩ (by simp) rfl
        clear hdep
        go_wp2
        exact ⟨.bool true, (by simp only [updV, g4] <;> rfl), rfl, Below.refl _ _⟩
      · intro x w hb hdep
        have g5 : x 45 = .bool true := hdep ⟨5, .guard⟩ (by simp) rfl
        clear hdep
        go_wp2
        exact ⟨.bool false, (by simp only [updV, g5] <;> rfl), rfl, Below.refl _ _⟩
      · intro x w hb hdep
        have g5 : x 45 = .bool true := hdep ⟨5, .guard⟩ (by simp) rfl
        have c20 := (hb.cell (p := ⟨B + 1, 0, none⟩) hB2).trans h20; have c21 := (hb.cell (p := ⟨B + 1, 1, none⟩) hB2).trans h21
        clear hdep
        go_wp2
        exact ⟨(.agg #[.int .i64 k2, .string s2]), (by simp only [updV, g5] <;> rfl), rfl, Below.refl _ _⟩
      · intro x w hb hdep
        have g5 : x 45 = .bool true := hdep ⟨5, .guard⟩ (by simp) rfl
        have c10 := (hb.cell (p := ⟨B, 0, none⟩) hB1).trans h10; have c11 := (hb.cell (p := ⟨B, 1, none⟩) hB1).trans h11
        clear hdep
        go_wp2
        exact ⟨(.agg #[.int .i64 k1, .string s1]), (by simp only [updV, g5] <;> rfl), rfl, Below.refl _ _⟩
      · intro x w hb hdep
        have g7 : x 47 = (.agg #[.int .i64 k2, .string s2]) := hdep ⟨7, .data⟩ (by simp) rfl
        have g8 : x 48 = (.agg #[.int .i64 k1, .string s1]) := hdep ⟨8, .data⟩ (by simp) rfl
        have g5 : x 45 = .bool true := hdep ⟨5, .guard⟩ (by simp) rfl
        clear hdep
        go_wp2_with (go_at_call 9; refine (same_any k2 s2 k1 s1 HS2.out HS1.out _ (Utf8Tabs_below HT.out hb)).mono ?_; rintro e w1 ⟨rfl, hbc⟩; rw [sameS_comm, HA.out])
        exact ⟨.bool false, (by simp only [updV, g7, g8, g5] <;> rfl), rfl, hbc⟩
      · intro x w hb hdep
        have g6 : x 46 = .bool false := hdep ⟨6, .data⟩ (by simp) rfl
        have g9 : x 49 = .bool false := hdep ⟨9, .data⟩ (by simp) rfl
        have g5 : x 45 = .bool true := hdep ⟨5, .guard⟩ (by simp) rfl
        clear hdep
        go_wp2
        exact ⟨.bool true, (by simp only [updV, g6, g9, g5] <;> rfl), rfl, Below.refl _ _⟩
      · intro x w hb hdep
        have g5 : x 45 = .bool true := hdep ⟨5, .data⟩ (by simp) rfl
        have g10 : x 50 = .bool true := hdep ⟨10, .data⟩ (by simp) rfl
        clear hdep
        go_wp2
        exact ⟨.bool true, (by simp only [updV, g5, g10] <;> rfl), rfl, Below.refl _ _⟩
      · intro x w hb hdep
        have g11 : x 51 = .bool true := hdep ⟨11, .data⟩ (by simp) rfl
        clear hdep
        go_wp2
        exact ⟨.bool true, (by simp only [updV, g11] <;> rfl), rfl, Below.refl _ _⟩
      · intro x w hb hdep
        have g12 : x 52 = .bool true := hdep ⟨12, .guard⟩ (by simp) rfl
        have c10 := (hb.cell (p := ⟨B, 0, none⟩) hB1).trans h10; have c11 := (hb.cell (p := ⟨B, 1, none⟩) hB1).trans h11
        clear hdep
        go_wp2
        exact ⟨(.agg #[.int .i64 k1, .string s1]), (by simp only [updV, g12] <;> rfl), rfl, Below.refl _ _⟩
      · intro x w hb hdep
        have g12 : x 52 = .bool true := hdep ⟨12, .guard⟩ (by simp) rfl
        have c10 := (hb.cell (p := ⟨B, 0, none⟩) hB1).trans h10; have c11 := (hb.cell (p := ⟨B, 1, none⟩) hB1).trans h11
        clear hdep
        go_wp2
        exact ⟨(.agg #[.int .i64 k1, .string s1]), (by simp only [updV, g12] <;> rfl), rfl, Below.refl _ _⟩
      · intro x w hb hdep
        have g13 : x 53 = (.agg #[.int .i64 k1, .string s1]) := hdep ⟨13, .data⟩ (by simp) rfl
        have g14 : x 54 = (.agg #[.int .i64 k1, .string s1]) := hdep ⟨14, .data⟩ (by simp) rfl
        have g12 : x 52 = .bool true := hdep ⟨12, .guard⟩ (by simp) rfl
        clear hdep
        go_wp2_with (go_at_call 9; refine (same_any k1 s1 k1 s1 HS1.out HS1.out _ (Utf8Tabs_below HT.out hb)).mono ?_; rintro e w1 ⟨rfl, hbc⟩; rw [sameS_self, HV.out])
        exact ⟨.bool V, (by simp only [updV, g13, g14, g12] <;> rfl), rfl, hbc⟩
      · intro x w hb hdep
        have g12 : x 52 = .bool true := hdep ⟨12, .guard⟩ (by simp) rfl
        have c10 := (hb.cell (p := ⟨B, 0, none⟩) hB1).trans h10; have c11 := (hb.cell (p := ⟨B, 1, none⟩) hB1).trans h11
        clear hdep
        go_wp2
        exact ⟨(.agg #[.int .i64 k1, .string s1]), (by simp only [updV, g12] <;> rfl), rfl, Below.refl _ _⟩
      · intro x w hb hdep
        have g16 : x 56 = (.agg #[.int .i64 k1, .string s1]) := hdep ⟨16, .data⟩ (by simp) rfl
        have g12 : x 52 = .bool true := hdep ⟨12, .guard⟩ (by simp) rfl
        clear hdep
        go_wp2_with (go_at_call 11; refine (rValid_any k1 s1 HS1.out _).mono ?_; rintro e w1 ⟨rfl, hbc⟩; rw [HV.out])
        exact ⟨.bool V, (by simp only [updV, g16, g12] <;> rfl), rfl, hbc⟩
      · intro x w hb hdep
        have g15 : x 55 = .bool V := hdep ⟨15, .data⟩ (by simp) rfl
        have g17 : x 57 = .bool V := hdep ⟨17, .data⟩ (by simp) rfl
        have g12 : x 52 = .bool true := hdep ⟨12, .guard⟩ (by simp) rfl
        clear hdep
        go_wp2
        exact ⟨.bool true, (by simp only [updV, g15, g17, g12] <;> rfl), rfl, Below.refl _ _⟩
      · intro x w hb hdep
        have g12 : x 52 = .bool true := hdep ⟨12, .data⟩ (by simp) rfl
        have g18 : x 58 = .bool true := hdep ⟨18, .data⟩ (by simp) rfl
        clear hdep
        go_wp2
        exact ⟨.bool true, (by simp only [updV, g12, g18] <;> rfl), rfl, Below.refl _ _⟩
      · intro x w hb hdep
        have g19 : x 59 = .bool true := hdep ⟨19, .data⟩ (by simp) rfl
        clear hdep
        go_wp2
        exact ⟨.bool true, (by simp only [updV, g19] <;> rfl), rfl, Below.refl _ _⟩
      · intro x w hb hdep
        have g20 : x 60 = .bool true := hdep ⟨20, .guard⟩ (by simp) rfl
        clear hdep
        go_wp2
        exact ⟨.bool false, (by simp only [updV, g20] <;> rfl), rfl, Below.refl _ _⟩
      · intro x w hb hdep
        have g21 : x 61 = .bool false := hdep ⟨21, .data⟩ (by simp) rfl
        have g20 : x 60 = .bool true := hdep ⟨20, .guard⟩ (by simp) rfl
        clear hdep
        go_wp2
        exact ⟨.bool true, (by simp only [updV, g21, g20] <;> rfl), rfl, Below.refl _ _⟩
      · intro x w hb hdep
        have g22 : x 62 = .bool true := hdep ⟨22, .data⟩ (by simp) rfl
        have g20 : x 60 = .bool true := hdep ⟨20, .guard⟩ (by simp) rfl
        clear hdep
        go_wp2
        exact ⟨.bool true, (by simp only [updV, g22, g20] <;> rfl), rfl, Below.refl _ _⟩
      · intro x w hb hdep
        have g23 : x 63 = .bool true := hdep ⟨23, .guard⟩ (by simp) rfl
        clear hdep
        go_wp2
        exact ⟨undef, (by simp only [updV, g23] <;> rfl), trivial, Below.refl _ _⟩
      · intro x w hb hdep
        have g23 : x 63 = .bool true := hdep ⟨23, .guard⟩ (by simp) rfl
        clear hdep
        go_wp2
        exact ⟨undef, (by simp only [updV, g23] <;> rfl), trivial, Below.refl _ _⟩
      · intro x w hb hdep
        have g23 : x 63 = .bool true := hdep ⟨23, .data⟩ (by simp) rfl
        have g20 : x 60 = .bool true := hdep ⟨20, .guard⟩ (by simp) rfl
        clear hdep
        go_wp2
        exact ⟨.bool true, (by simp only [updV, g23, g20] <;> rfl), rfl, Below.refl _ _⟩
      · intro x w hb hdep
        have g26 : x 66 = .bool true := hdep ⟨26, .data⟩ (by simp) rfl
        have g20 : x 60 = .bool true := hdep ⟨20, .guard⟩ (by simp) rfl
        clear hdep
        go_wp2
        exact ⟨.bool true, (by simp only [updV, g26, g20] <;> rfl), rfl, Below.refl _ _⟩
      · intro x w hb hdep
        have g27 : x 67 = .bool true := hdep ⟨27, .guard⟩ (by simp) rfl
        clear hdep
        go_wp2
        exact ⟨undef, (by simp only [updV, g27] <;> rfl), trivial, Below.refl _ _⟩
      · intro x w hb hdep
        have g27 : x 67 = .bool true := hdep ⟨27, .data⟩ (by simp) rfl
        have g20 : x 60 = .bool true := hdep ⟨20, .guard⟩ (by simp) rfl
        clear hdep
        go_wp2
        exact ⟨.bool true, (by simp only [updV, g27, g20] <;> rfl), rfl, Below.refl _ _⟩
      · intro x w hb hdep
        have g20 : x 60 = .bool true := hdep ⟨20, .data⟩ (by simp) rfl
        have g29 : x 69 = .bool true := hdep ⟨29, .data⟩ (by simp) rfl
        clear hdep
        go_wp2
        exact ⟨.bool true, (by simp only [updV, g20, g29] <;> rfl), rfl, Below.refl _ _⟩
      · intro x w hb hdep
        have g30 : x 70 = .bool true := hdep ⟨30, .data⟩ (by simp) rfl
        clear hdep
        go_wp2
        exact ⟨.bool true, (by simp only [updV, g30] <;> rfl), rfl, Below.refl _ _⟩
    case last =>
      intro x w2 hb h
      have g31 : x 6 = .bool true := h 31 (by decide)
      clear h
      simp only [g31]
      clear g31
      go_wp2
      go_ret
      exact ⟨rfl, by rw [HB.out]; exact (by rw [← HB.out]; exact HBW.out : Below B w W0).trans (hb.mono (by have := HBW.out.size; rw [HB.out] at this; exact this))⟩


set_option maxRecDepth 100000 in
set_option maxHeartbeats 4000000 in
theorem slLong1 (k1 k2 k3 : Int) (s1 s2 s3 : ByteArray) (w : World) (hT : Lib.Utf8Tabs 0 1 w) (d1 : decide ((1000 : Int) < s1.size) = true) :
    Calls Tryd.prog 3 #[.agg #[.int .i64 k1, .string s1], .agg #[.int .i64 k2, .string s2], .agg #[.int .i64 k3, .string s3]] w fun e w' => e = .returned (.bool true) ∧ Below w.heap.size w w' := by
  have HT0 := Lib.hid hT; clear hT
  go_enter Tryd.func3, Tryd.ntmps3
  go_wp2_with fail
  refine (awake_any _ (Utf8Tabs_below HT0.out (by exact (((Below.refl _ _).alloc (Nat.le_refl _) _).alloc (by simp) _).alloc (by simp; omega) _))).mono ?_
  rintro e W0 ⟨rfl, hb⟩
  obtain ⟨hc, -⟩ := bcell hb
  have h11 : W0.cell? ⟨w.heap.size, 1, none⟩ = some (.string s1) := by rw [hc (w.heap.size) 1 (by first | omega | (simp; done) | (simp; omega) | (simp [go_sem]; done) | (simp [go_sem]; omega))]; simp [go_sem]
  have h21 : W0.cell? ⟨w.heap.size + 1, 1, none⟩ = some (.string s2) := by rw [hc (w.heap.size + 1) 1 (by first | omega | (simp; done) | (simp; omega) | (simp [go_sem]; done) | (simp [go_sem]; omega))]; simp [go_sem]
  have h31 : W0.cell? ⟨w.heap.size + 1 + 1, 1, none⟩ = some (.string s3) := by rw [hc (w.heap.size + 1 + 1) 1 (by first | omega | (simp; done) | (simp; omega) | (simp [go_sem]; done) | (simp [go_sem]; omega))]; simp [go_sem]
  have hbw : Below w.heap.size w W0 := Below.trans (((Below.refl _ _).alloc (Nat.le_refl _) _).alloc (by simp) _ |>.alloc (by simp; omega) _) (hb.mono (by simp; omega))
  clear hc hb
  have HT := Lib.hid (Utf8Tabs_below HT0.out hbw)
  have HBW := Lib.hid hbw; clear hbw
  go_wp2_with fail
  refine (awake_any _ HT.out).mono ?_
  rintro e w2 ⟨rfl, hb⟩
  go_wp2
  go_ret
  exact ⟨rfl, HBW.out.trans (hb.mono HBW.out.size)⟩

set_option maxRecDepth 100000 in
set_option maxHeartbeats 4000000 in
theorem slLong2 (k1 k2 k3 : Int) (s1 s2 s3 : ByteArray) (w : World) (hT : Lib.Utf8Tabs 0 1 w) (d1 : decide ((1000 : Int) < s1.size) = false) (d2 : decide ((1000 : Int) < s2.size) = true) :
    Calls Tryd.prog 3 #[.agg #[.int .i64 k1, .string s1], .agg #[.int .i64 k2, .string s2], .agg #[.int .i64 k3, .string s3]] w fun e w' => e = .returned (.bool true) ∧ Below w.heap.size w w' := by
  have HT0 := Lib.hid hT; clear hT
  go_enter Tryd.func3, Tryd.ntmps3
  go_wp2_with fail
  refine (awake_any _ (Utf8Tabs_below HT0.out (by exact (((Below.refl _ _).alloc (Nat.le_refl _) _).alloc (by simp) _).alloc (by simp; omega) _))).mono ?_
  rintro e W0 ⟨rfl, hb⟩
  obtain ⟨hc, -⟩ := bcell hb
  have h11 : W0.cell? ⟨w.heap.size, 1, none⟩ = some (.string s1) := by rw [hc (w.heap.size) 1 (by first | omega | (simp; done) | (simp; omega) | (simp [go_sem]; done) | (simp [go_sem]; omega))]; simp [go_sem]
  have h21 : W0.cell? ⟨w.heap.size + 1, 1, none⟩ = some (.string s2) := by rw [hc (w.heap.size + 1) 1 (by first | omega | (simp; done) | (simp; omega) | (simp [go_sem]; done) | (simp [go_sem]; omega))]; simp [go_sem]
  have h31 : W0.cell? ⟨w.heap.size + 1 + 1, 1, none⟩ = some (.string s3) := by rw [hc (w.heap.size + 1 + 1) 1 (by first | omega | (simp; done) | (simp; omega) | (simp [go_sem]; done) | (simp [go_sem]; omega))]; simp [go_sem]
  have hbw : Below w.heap.size w W0 := Below.trans (((Below.refl _ _).alloc (Nat.le_refl _) _).alloc (by simp) _ |>.alloc (by simp; omega) _) (hb.mono (by simp; omega))
  clear hc hb
  have HT := Lib.hid (Utf8Tabs_below HT0.out hbw)
  have HBW := Lib.hid hbw; clear hbw
  go_wp2_with fail
  refine (awake_any _ HT.out).mono ?_
  rintro e w2 ⟨rfl, hb⟩
  go_wp2
  go_ret
  exact ⟨rfl, HBW.out.trans (hb.mono HBW.out.size)⟩

set_option maxRecDepth 100000 in
set_option maxHeartbeats 4000000 in
theorem slLong3 (k1 k2 k3 : Int) (s1 s2 s3 : ByteArray) (w : World) (hT : Lib.Utf8Tabs 0 1 w) (d1 : decide ((1000 : Int) < s1.size) = false) (d2 : decide ((1000 : Int) < s2.size) = false) (d3 : decide ((1000 : Int) < s3.size) = true) :
    Calls Tryd.prog 3 #[.agg #[.int .i64 k1, .string s1], .agg #[.int .i64 k2, .string s2], .agg #[.int .i64 k3, .string s3]] w fun e w' => e = .returned (.bool true) ∧ Below w.heap.size w w' := by
  have HT0 := Lib.hid hT; clear hT
  go_enter Tryd.func3, Tryd.ntmps3
  go_wp2_with fail
  refine (awake_any _ (Utf8Tabs_below HT0.out (by exact (((Below.refl _ _).alloc (Nat.le_refl _) _).alloc (by simp) _).alloc (by simp; omega) _))).mono ?_
  rintro e W0 ⟨rfl, hb⟩
  obtain ⟨hc, -⟩ := bcell hb
  have h11 : W0.cell? ⟨w.heap.size, 1, none⟩ = some (.string s1) := by rw [hc (w.heap.size) 1 (by first | omega | (simp; done) | (simp; omega) | (simp [go_sem]; done) | (simp [go_sem]; omega))]; simp [go_sem]
  have h21 : W0.cell? ⟨w.heap.size + 1, 1, none⟩ = some (.string s2) := by rw [hc (w.heap.size + 1) 1 (by first | omega | (simp; done) | (simp; omega) | (simp [go_sem]; done) | (simp [go_sem]; omega))]; simp [go_sem]
  have h31 : W0.cell? ⟨w.heap.size + 1 + 1, 1, none⟩ = some (.string s3) := by rw [hc (w.heap.size + 1 + 1) 1 (by first | omega | (simp; done) | (simp; omega) | (simp [go_sem]; done) | (simp [go_sem]; omega))]; simp [go_sem]
  have hbw : Below w.heap.size w W0 := Below.trans (((Below.refl _ _).alloc (Nat.le_refl _) _).alloc (by simp) _ |>.alloc (by simp; omega) _) (hb.mono (by simp; omega))
  clear hc hb
  have HT := Lib.hid (Utf8Tabs_below HT0.out hbw)
  have HBW := Lib.hid hbw; clear hbw
  go_wp2_with fail
  refine (awake_any _ HT.out).mono ?_
  rintro e w2 ⟨rfl, hb⟩
  go_wp2
  go_ret
  exact ⟨rfl, HBW.out.trans (hb.mono HBW.out.size)⟩

set_option maxRecDepth 100000 in
set_option maxHeartbeats 4000000 in
theorem charsetSame_walk (k1 k2 k3 : Int) (s1 s2 s3 : ByteArray) (w : World) (hT : Lib.Utf8Tabs 0 1 w)  :
    Calls Tryd.prog 3 #[.agg #[.int .i64 k1, .string s1], .agg #[.int .i64 k2, .string s2], .agg #[.int .i64 k3, .string s3]] w fun e w' => e = .returned (.bool true) ∧ Below w.heap.size w w' := by
  rcases Bool.eq_false_or_eq_true (decide ((1000 : Int) < s1.size)) with d1 | d1
  · exact slLong1 k1 k2 k3 s1 s2 s3 w hT d1
  rcases Bool.eq_false_or_eq_true (decide ((1000 : Int) < s2.size)) with d2 | d2
  · exact slLong2 k1 k2 k3 s1 s2 s3 w hT d1 d2
  rcases Bool.eq_false_or_eq_true (decide ((1000 : Int) < s3.size)) with d3 | d3
  · exact slLong3 k1 k2 k3 s1 s2 s3 w hT d1 d2 d3
  have h1 : s1.size ≤ 1000 := by rw [decide_eq_false_iff_not] at d1; omega
  have h2 : s2.size ≤ 1000 := by rw [decide_eq_false_iff_not] at d2; omega
  have h3 : s3.size ≤ 1000 := by rw [decide_eq_false_iff_not] at d3; omega
  rcases Bool.eq_false_or_eq_true (sameS k1 s1.data.toList k2 s2.data.toList) with a | a
  · rcases Bool.eq_false_or_eq_true (sameS k2 s2.data.toList k3 s3.data.toList) with b | b
    · exact sltt k1 k2 k3 s1 s2 s3 h1 h2 h3 w hT a b (sameS_trans a b)
    · exact sltf k1 k2 k3 s1 s2 s3 _ h1 h2 h3 w hT a b rfl
  · exact slfx k1 k2 k3 s1 s2 s3 _ _ h1 h2 h3 w hT a rfl rfl

end Go.Proofs.YtafconpneeggiaaDoor
