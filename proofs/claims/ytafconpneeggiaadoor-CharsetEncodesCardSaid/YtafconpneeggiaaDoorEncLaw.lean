/- The walk of the law CharsetEncodes: it answers true at any character string. No condition but the tables of unicode/utf8. Printed by wip/gen/encodeslaw.py. -/
import Derived.Test.YtafconpneeggiaaDoorAwake07
import Derived.Test.YtafconpneeggiaaDoorRegR
import Derived.Test.YtafconpneeggiaaDoorLen
import Derived.Test.YtafconpneeggiaaDoorEncPlain
import Derived.Test.YtafconpneeggiaaDoorDecO
namespace Go.Proofs.YtafconpneeggiaaDoor
open Go.RowKit
open Go.Lib (validD decodeL)


set_option maxRecDepth 100000 in
set_option maxHeartbeats 4000000 in
theorem elLong (k : Int) (s : ByteArray) (w : World) (hT : Lib.Utf8Tabs 0 1 w) (d : decide ((1000 : Int) < s.size) = true) :
    Calls Tryd.prog 6 #[.agg #[.int .i64 k, .string s]] w fun e w' => e = .returned (.bool true) ∧ Below w.heap.size w w' := by
  have HT0 := Lib.hid hT; clear hT
  go_enter Tryd.func6, Tryd.ntmps6
  go_wp2_with fail
  refine (awake_any _ (Utf8Tabs_below HT0.out ((Below.refl _ _).alloc (Nat.le_refl _) _))).mono ?_
  rintro e W0 ⟨rfl, hb⟩
  obtain ⟨hc, -⟩ := bcell hb
  have h0 : W0.cell? ⟨w.heap.size, 0, none⟩ = some (.int .i64 k) := by rw [hc w.heap.size 0 (by first | omega | (simp; done) | (simp; omega) | (simp [go_sem]; done) | (simp [go_sem]; omega))]; simp [go_sem]
  have h1 : W0.cell? ⟨w.heap.size, 1, none⟩ = some (.string s) := by rw [hc w.heap.size 1 (by first | omega | (simp; done) | (simp; omega) | (simp [go_sem]; done) | (simp [go_sem]; omega))]; simp [go_sem]
  have hbw : Below w.heap.size w W0 := Below.trans ((Below.refl _ _).alloc (Nat.le_refl _) _) (hb.mono (by simp))
  clear hc hb
  have HT := Lib.hid (Utf8Tabs_below HT0.out hbw)
  have HBW := Lib.hid hbw
  have hz0 := lt_of_cell h0
  clear hbw
  go_wp2_with fail
  refine (awake_any _ HT.out).mono ?_
  rintro e w2 ⟨rfl, hb⟩
  go_wp2
  go_ret
  exact ⟨rfl, HBW.out.trans (hb.mono HBW.out.size)⟩

/-- What each operation's value is known to be. -/
def elJ (k : Int) (s : ByteArray) (L C : Int) (V : Bool) (va vb : Value) : Nat → Value → World → Prop
  | 0, v, _ => v = va
  | 1, v, _ => v = vb
  | 2, v, _ => v = .bool true
  | 3, v, _ => v = .bool false
  | 4, v, _ => v = .bool false
  | 5, v, _ => v = .int .i64 C
  | 6, v, _ => v = .int .i64 C
  | 7, v, _ => v = .bool false
  | 8, v, _ => v = .bool false
  | 9, v, _ => v = .bool false
  | 10, v, _ => v = (.agg #[.int .i64 k, .string s])
  | 11, v, _ => v = .bool V
  | 12, v, _ => v = (.agg #[.int .i64 k, .string s])
  | 13, v, _ => v = .bool V
  | 14, v, _ => v = .bool false
  | 15, v, _ => v = .bool false
  | 16, v, _ => v = .bool false
  | 17, v, _ => v = (.agg #[.int .i64 k, .string s])
  | 18, v, _ => v = .int .i64 L
  | 19, v, _ => v = (.agg #[.int .i64 k, .string s])
  | 20, v, _ => v = .int .i64 L
  | 21, v, _ => v = .bool false
  | 22, v, _ => v = .bool false
  | _, _, _ => True

set_option maxRecDepth 100000 in
set_option maxHeartbeats 4000000 in
theorem elShort (k : Int) (s : ByteArray) (w : World) (hT : Lib.Utf8Tabs 0 1 w) (hs : s.size ≤ 1000) :
    Calls Tryd.prog 6 #[.agg #[.int .i64 k, .string s]] w fun e w' => e = .returned (.bool true) ∧ Below w.heap.size w w' := by
  have HT0 := Lib.hid hT; clear hT
  have d : decide ((1000 : Int) < s.size) = false := by rw [decide_eq_false_iff_not]; omega
  have HS : Hid (s.size ≤ 16777216) := Lib.hid (by omega)
  have HEL : Hid ((encR k s.data.toList).length ≤ 1000000) := Lib.hid (encR_len k _ (by have h2 : s.size = s.data.toList.length := by { rw [Array.length_toList]; rfl }; omega))
  clear hs
  obtain ⟨E, hE⟩ : ∃ E, encR k s.data.toList = E := ⟨_, rfl⟩
  obtain ⟨C, hC⟩ : ∃ C, encC k s.data.toList = C := ⟨_, rfl⟩
  obtain ⟨V, hV⟩ : ∃ V, validS k s.data.toList = V := ⟨_, rfl⟩
  obtain ⟨L, hL⟩ : ∃ L, lenS k s.data.toList = L := ⟨_, rfl⟩
  have HDEC : Hid ((C = 0 ∧ decK k E = k ∧ decV k E = s.data.toList ∧ decC k E = 0) ∨ (C == 0) = false) := Lib.hid (by
    cases hv : validS k s.data.toList with
    | false => exact .inr (by rw [← hC]; unfold encC; rw [hv]; rfl)
    | true => exact .inl ⟨by rw [← hC]; unfold encC; rw [hv]; rfl, by rw [← hE]; exact enc_dec hv⟩)
  have HE := Lib.hid hE; have HC := Lib.hid hC; have HV := Lib.hid hV; have HL := Lib.hid hL
  clear hE hC hV hL
  go_enter Tryd.func6, Tryd.ntmps6
  go_wp2_with fail
  refine (awake_any _ (Utf8Tabs_below HT0.out ((Below.refl _ _).alloc (Nat.le_refl _) _))).mono ?_
  rintro e W0 ⟨rfl, hb⟩
  obtain ⟨hc, -⟩ := bcell hb
  have h0 : W0.cell? ⟨w.heap.size, 0, none⟩ = some (.int .i64 k) := by rw [hc w.heap.size 0 (by first | omega | (simp; done) | (simp; omega) | (simp [go_sem]; done) | (simp [go_sem]; omega))]; simp [go_sem]
  have h1 : W0.cell? ⟨w.heap.size, 1, none⟩ = some (.string s) := by rw [hc w.heap.size 1 (by first | omega | (simp; done) | (simp; omega) | (simp [go_sem]; done) | (simp [go_sem]; omega))]; simp [go_sem]
  have hbw : Below w.heap.size w W0 := Below.trans ((Below.refl _ _).alloc (Nat.le_refl _) _) (hb.mono (by simp))
  clear hc hb
  have HT := Lib.hid (Utf8Tabs_below HT0.out hbw)
  have HBW := Lib.hid hbw
  have hz0 := lt_of_cell h0
  clear hbw
  go_wp2_with fail
  refine (encode_any k s HS.out _ HT.out).mono ?_
  rintro e w1 ⟨va, rfl, ra, hb⟩
  rw [HC.out]
  rw [HE.out] at ra
  obtain ⟨hc, -⟩ := bcell hb
  have a0 : w1.cell? ⟨w.heap.size, 0, none⟩ = some (.int .i64 k) := (hc _ 0 hz0).trans h0
  have a1 : w1.cell? ⟨w.heap.size, 1, none⟩ = some (.string s) := (hc _ 1 hz0).trans h1
  clear hc h0 h1
  have HRA0 := Lib.hid ra; clear ra
  have hz1 := lt_of_cell a0
  have HB1 := Lib.hid hb; clear hb
  go_wp2_with fail
  refine (rEncode_any k s HS.out _).mono ?_
  rintro e w2 ⟨vb, rfl, rb, hb⟩
  rw [HC.out]
  rw [HE.out] at rb
  obtain ⟨hc, -⟩ := bcell hb
  have b0 : w2.cell? ⟨w.heap.size, 0, none⟩ = some (.int .i64 k) := (hc _ 0 hz1).trans a0
  have b1 : w2.cell? ⟨w.heap.size, 1, none⟩ = some (.string s) := (hc _ 1 hz1).trans a1
  clear hc a0 a1
  have HRA := Lib.hid (HRA0.out.below hb)
  have HRB := Lib.hid rb; clear rb
  have HB2 := Lib.hid (HB1.out.trans (hb.mono HB1.out.size)); clear hb
  go_wp2
  obtain ⟨W2, rfl⟩ : ∃ W2 : World, W2 = w2 := ⟨_, rfl⟩
  obtain ⟨B, hB⟩ : ∃ B, w.heap.size = B := ⟨_, rfl⟩
  have HBn := Lib.hid hB
  have a0 : W2.cell? ⟨B, 0, none⟩ = some (.int .i64 k) := by rw [← hB]; exact b0
  have a1 : W2.cell? ⟨B, 1, none⟩ = some (.string s) := by rw [← hB]; exact b1
  clear b0 b1
  simp only [hB]
  clear hB
  have hB1 : B < W2.heap.size := lt_of_cell a0
  have HT2 := Lib.hid (Utf8Tabs_below HT.out HB2.out)
  refine wp_region_R (by kernel_rfl) (by kernel_rfl) (fun x => #[x 0, (.pointer (some ⟨B, 0, none⟩)), x 2, va, .int .i64 C, vb, .int .i64 C, x 7, x 8, x 9, x 10, x 11, x 12, x 13, x 14, x 15, x 16, x 17, x 18, x 19, x 20, x 21, x 22, x 23, x 24, x 25, x 26, x 27, x 28, x 29, x 30, x 31, x 32, x 33, x 34, x 35, x 36, x 37, x 38, x 39, x 40, x 41, x 42, x 43, x 44, x 45, x 46, x 47, x 48, x 49, x 50, x 51, x 52, x 53, x 54, x 55, x 56, x 57, x 58, x 59, x 60, x 61, x 62, x 63, x 64, x 65, x 66]) [28, 29, 30, 31, 32, 33, 34, 35, 36, 37, 38, 39, 40, 41, 42, 43, 44, 45, 46, 47, 48, 49, 50] (elJ k s L C V va vb) W2 (by decide) (by rfl) (fun k v w w' _ h => by unfold elJ at *; split at h <;> exact h) (by rfl) (Below.refl _ _) ?steps ?last
  case steps =>
    refine ⟨?_, ?_, ?_, ?_, ?_, ?_, ?_, ?_, ?_, ?_, ?_, ?_, ?_, ?_, ?_, ?_, ?_, ?_, ?_, ?_, ?_, ?_, ?_, trivial⟩
    · intro x w hb hdep
      clear hdep
      go_wp2
      exact ⟨va, (by simp only [updV] <;> rfl), rfl, Below.refl _ _⟩
    · intro x w hb hdep
      clear hdep
      go_wp2
      exact ⟨vb, (by simp only [updV] <;> rfl), rfl, Below.refl _ _⟩
    · intro x w hb hdep
      have g0 : x 28 = va := hdep ⟨0, .data⟩ (by simp) rfl
      have g1 : x 29 = vb := hdep ⟨1, .data⟩ (by simp) rfl
      clear hdep
      go_wp2_with (go_at_call 16; refine (Bytes_any _ _ _ _ _ E E (HRA.out.below hb) (HRB.out.below hb)).mono ?_; rintro e w1 ⟨rfl, hbe⟩; have hbc : Below w.heap.size w w1 := hbe ▸ Below.refl _ _; rw [show (E == E) = true from by simp])
      exact ⟨.bool true, (by simp only [updV, g0, g1] <;> rfl), rfl, hbc⟩
    · intro x w hb hdep
      have g2 : x 30 = .bool true := hdep ⟨2, .data⟩ (by simp) rfl
      clear hdep
      go_wp2
      exact ⟨.bool false, (by simp only [updV, g2] <;> rfl), rfl, Below.refl _ _⟩
    · intro x w hb hdep
      have g3 : x 31 = .bool false := hdep ⟨3, .data⟩ (by simp) rfl
      clear hdep
      go_wp2
      exact ⟨.bool false, (by simp only [updV, g3] <;> rfl), rfl, Below.refl _ _⟩
    · intro x w hb hdep
      have g4 : x 32 = .bool false := hdep ⟨4, .guard⟩ (by simp) rfl
      clear hdep
      go_wp2
      exact ⟨.int .i64 C, (by simp only [updV, g4] <;> rfl), rfl, Below.refl _ _⟩
    · intro x w hb hdep
      have g4 : x 32 = .bool false := hdep ⟨4, .guard⟩ (by simp) rfl
      clear hdep
      go_wp2
      exact ⟨.int .i64 C, (by simp only [updV, g4] <;> rfl), rfl, Below.refl _ _⟩
    · intro x w hb hdep
      have g5 : x 33 = .int .i64 C := hdep ⟨5, .data⟩ (by simp) rfl
      have g6 : x 34 = .int .i64 C := hdep ⟨6, .data⟩ (by simp) rfl
      have g4 : x 32 = .bool false := hdep ⟨4, .guard⟩ (by simp) rfl
      clear hdep
      go_wp2
      exact ⟨.bool false, (by simp only [updV, g5, g6, g4] <;> rfl), rfl, Below.refl _ _⟩
    · intro x w hb hdep
      have g4 : x 32 = .bool false := hdep ⟨4, .data⟩ (by simp) rfl
      have g7 : x 35 = .bool false := hdep ⟨7, .data⟩ (by simp) rfl
      clear hdep
      go_wp2
      exact ⟨.bool false, (by simp only [updV, g4, g7] <;> rfl), rfl, Below.refl _ _⟩
    · intro x w hb hdep
      have g8 : x 36 = .bool false := hdep ⟨8, .data⟩ (by simp) rfl
      clear hdep
      go_wp2
      exact ⟨.bool false, (by simp only [updV, g8] <;> rfl), rfl, Below.refl _ _⟩
    · intro x w hb hdep
      have g9 : x 37 = .bool false := hdep ⟨9, .guard⟩ (by simp) rfl
      have c0 := (hb.cell (p := ⟨B, 0, none⟩) hB1).trans a0; have c1 := (hb.cell (p := ⟨B, 1, none⟩) hB1).trans a1
      clear hdep
      go_wp2
      exact ⟨(.agg #[.int .i64 k, .string s]), (by simp only [updV, g9] <;> rfl), rfl, Below.refl _ _⟩
    · intro x w hb hdep
      have g10 : x 38 = (.agg #[.int .i64 k, .string s]) := hdep ⟨10, .data⟩ (by simp) rfl
      have g9 : x 37 = .bool false := hdep ⟨9, .guard⟩ (by simp) rfl
      clear hdep
      go_wp2_with (go_at_call 18; refine (valid_any k s HS.out _ (Utf8Tabs_below HT2.out hb)).mono ?_; rintro e w1 ⟨rfl, hbc⟩; rw [HV.out])
      exact ⟨.bool V, (by simp only [updV, g10, g9] <;> rfl), rfl, hbc⟩
    · intro x w hb hdep
      have g9 : x 37 = .bool false := hdep ⟨9, .guard⟩ (by simp) rfl
      have c0 := (hb.cell (p := ⟨B, 0, none⟩) hB1).trans a0; have c1 := (hb.cell (p := ⟨B, 1, none⟩) hB1).trans a1
      clear hdep
      go_wp2
      exact ⟨(.agg #[.int .i64 k, .string s]), (by simp only [updV, g9] <;> rfl), rfl, Below.refl _ _⟩
    · intro x w hb hdep
      have g12 : x 40 = (.agg #[.int .i64 k, .string s]) := hdep ⟨12, .data⟩ (by simp) rfl
      have g9 : x 37 = .bool false := hdep ⟨9, .guard⟩ (by simp) rfl
      clear hdep
      go_wp2_with (go_at_call 11; refine (rValid_any k s HS.out _).mono ?_; rintro e w1 ⟨rfl, hbc⟩; rw [HV.out])
      exact ⟨.bool V, (by simp only [updV, g12, g9] <;> rfl), rfl, hbc⟩
    · intro x w hb hdep
      have g11 : x 39 = .bool V := hdep ⟨11, .data⟩ (by simp) rfl
      have g13 : x 41 = .bool V := hdep ⟨13, .data⟩ (by simp) rfl
      have g9 : x 37 = .bool false := hdep ⟨9, .guard⟩ (by simp) rfl
      clear hdep
      go_wp2
      exact ⟨.bool false, (by simp only [updV, g11, g13, g9] <;> rfl), rfl, Below.refl _ _⟩
    · intro x w hb hdep
      have g9 : x 37 = .bool false := hdep ⟨9, .data⟩ (by simp) rfl
      have g14 : x 42 = .bool false := hdep ⟨14, .data⟩ (by simp) rfl
      clear hdep
      go_wp2
      exact ⟨.bool false, (by simp only [updV, g9, g14] <;> rfl), rfl, Below.refl _ _⟩
    · intro x w hb hdep
      have g15 : x 43 = .bool false := hdep ⟨15, .data⟩ (by simp) rfl
      clear hdep
      go_wp2
      exact ⟨.bool false, (by simp only [updV, g15] <;> rfl), rfl, Below.refl _ _⟩
    · intro x w hb hdep
      have g16 : x 44 = .bool false := hdep ⟨16, .guard⟩ (by simp) rfl
      have c0 := (hb.cell (p := ⟨B, 0, none⟩) hB1).trans a0; have c1 := (hb.cell (p := ⟨B, 1, none⟩) hB1).trans a1
      clear hdep
      go_wp2
      exact ⟨(.agg #[.int .i64 k, .string s]), (by simp only [updV, g16] <;> rfl), rfl, Below.refl _ _⟩
    · intro x w hb hdep
      have g17 : x 45 = (.agg #[.int .i64 k, .string s]) := hdep ⟨17, .data⟩ (by simp) rfl
      have g16 : x 44 = .bool false := hdep ⟨16, .guard⟩ (by simp) rfl
      clear hdep
      go_wp2_with (go_at_call 12; refine (len_any k s HS.out _ (Utf8Tabs_below HT2.out hb)).mono ?_; rintro e w1 ⟨rfl, hbc⟩; rw [HL.out])
      exact ⟨.int .i64 L, (by simp only [updV, g17, g16] <;> rfl), rfl, hbc⟩
    · intro x w hb hdep
      have g16 : x 44 = .bool false := hdep ⟨16, .guard⟩ (by simp) rfl
      have c0 := (hb.cell (p := ⟨B, 0, none⟩) hB1).trans a0; have c1 := (hb.cell (p := ⟨B, 1, none⟩) hB1).trans a1
      clear hdep
      go_wp2
      exact ⟨(.agg #[.int .i64 k, .string s]), (by simp only [updV, g16] <;> rfl), rfl, Below.refl _ _⟩
    · intro x w hb hdep
      have g19 : x 47 = (.agg #[.int .i64 k, .string s]) := hdep ⟨19, .data⟩ (by simp) rfl
      have g16 : x 44 = .bool false := hdep ⟨16, .guard⟩ (by simp) rfl
      clear hdep
      go_wp2_with (go_at_call 19; refine (rLen_any k s HS.out _).mono ?_; rintro e w1 ⟨rfl, hbc⟩; rw [HL.out])
      exact ⟨.int .i64 L, (by simp only [updV, g19, g16] <;> rfl), rfl, hbc⟩
    · intro x w hb hdep
      have g18 : x 46 = .int .i64 L := hdep ⟨18, .data⟩ (by simp) rfl
      have g20 : x 48 = .int .i64 L := hdep ⟨20, .data⟩ (by simp) rfl
      have g16 : x 44 = .bool false := hdep ⟨16, .guard⟩ (by simp) rfl
      clear hdep
      go_wp2
      exact ⟨.bool false, (by simp only [updV, g18, g20, g16] <;> rfl), rfl, Below.refl _ _⟩
    · intro x w hb hdep
      have g16 : x 44 = .bool false := hdep ⟨16, .data⟩ (by simp) rfl
      have g21 : x 49 = .bool false := hdep ⟨21, .data⟩ (by simp) rfl
      clear hdep
      go_wp2
      exact ⟨.bool false, (by simp only [updV, g16, g21] <;> rfl), rfl, Below.refl _ _⟩
  case last =>
    intro x w2 hb h
    have g22 : x 50 = .bool false := h 22 (by decide)
    clear h
    simp only [g22]
    clear g22
    have a0' := (hb.cell (p := ⟨B, 0, none⟩) hB1).trans a0
    have a1' := (hb.cell (p := ⟨B, 1, none⟩) hB1).trans a1
    have HBF := Lib.hid (HBW.out.trans ((HB2.out.trans (hb.mono HB2.out.size)).mono HBW.out.size))
    have HT3 := Lib.hid (Utf8Tabs_below HT2.out hb)
    have HRA3 := Lib.hid (HRA.out.below hb)
    clear hb a0 a1
    rcases HDEC.out with ⟨rfl, g1, g2, g3⟩ | hne
    · have G1 := Lib.hid g1; have G2 := Lib.hid g2; have G3 := Lib.hid g3; clear g1 g2 g3
      go_wp2_with fail
      refine (dec_any k _ va E _ HRA3.out (HE.out ▸ HEL.out) HT3.out).mono ?_
      rintro e w5 ⟨rfl, hb⟩
      rw [G1.out, G2.out, G3.out, show (⟨s.data.toList.toArray⟩ : ByteArray) = s from by cases s; simp]
      obtain ⟨hc, -⟩ := bcell hb
      have hz := lt_of_cell a0'
      have b0 := (hc _ 0 hz).trans a0'
      have b1 := (hc _ 1 hz).trans a1'
      have hz5 := lt_of_cell b0
      clear hc
      have HBG := Lib.hid (HBF.out.trans (hb.mono HBF.out.size)); clear hb
      go_wp2
      go_ret
      exact ⟨rfl, HBG.out.alloc HBG.out.size _⟩
    · go_wp2
      go_ret
      exact ⟨rfl, HBF.out⟩

set_option maxRecDepth 100000 in
set_option maxHeartbeats 4000000 in
theorem charsetEncodes_walk (k : Int) (s : ByteArray) (w : World) (hT : Lib.Utf8Tabs 0 1 w)  :
    Calls Tryd.prog 6 #[.agg #[.int .i64 k, .string s]] w fun e w' => e = .returned (.bool true) ∧ Below w.heap.size w w' := by
  have HT0 := Lib.hid hT; clear hT
  have hT := HT0.out
  rcases Bool.eq_false_or_eq_true (decide ((1000 : Int) < s.size)) with d1 | d1
  · exact elLong k s w hT d1
  · exact elShort k s w hT (by rw [decide_eq_false_iff_not] at d1; omega)

end Go.Proofs.YtafconpneeggiaaDoor
