/- charset.Same and the reference's Same. Strings of at most 16777216 bytes. Printed by wip/gen/same.py. -/
import Derived.Test.YtafconpneeggiaaDoorValid
import Derived.Test.YtafconpneeggiaaDoorFold
namespace Go.Proofs.YtafconpneeggiaaDoor
open Go.RowKit
open Go.Lib (validD decodeL)

def sameS (k1 : Int) (l1 : List UInt8) (k2 : Int) (l2 : List UInt8) : Bool := validS k1 l1 && (validS k2 l2 && decide (fold l1 = fold l2))
theorem sameS_1 {k1 k2 : Int} {l1 l2 : List UInt8} (h : validS k1 l1 = false) : sameS k1 l1 k2 l2 = false := by unfold sameS; rw [h]; rfl
theorem sameS_2 {k1 k2 : Int} {l1 l2 : List UInt8} (h : validS k2 l2 = false) : sameS k1 l1 k2 l2 = false := by unfold sameS; rw [h]; simp
theorem sameS_3 {k1 k2 : Int} {l1 l2 : List UInt8} (h1 : validS k1 l1 = true) (h2 : validS k2 l2 = true) : sameS k1 l1 k2 l2 = ((⟨(fold l1).toArray⟩ : ByteArray).toList == (⟨(fold l2).toArray⟩ : ByteArray).toList) := by
  unfold sameS; rw [h1, h2, Bool.true_and, Bool.true_and, ByteArray.toList_mk, ByteArray.toList_mk, Bool.eq_iff_iff, decide_eq_true_iff, beq_iff_eq]

/-- What is known of a region when a set of its operations is done. -/
def sameJ0 (k1 k2 : Int) (s1 s2 F1 F2 : ByteArray) (B : Nat) (W0 : World) (d : Nat → Bool) (a : Act) (w : World) : Prop :=
  ∃ (x4 x5 x6 x7 x10 x11 x19 : Value), a = { tmps := #[(.agg #[.int .i64 k1, .string s1]), (.agg #[.int .i64 k2, .string s2]), (.pointer (some ⟨B, 0, none⟩)), (.pointer (some ⟨B + 1, 0, none⟩)), x4, x5, x6, x7, undef, undef, x10, x11, undef, undef, undef, undef, undef, undef, undef, x19], defers := [] } ∧ Below W0.heap.size W0 w ∧
    (d 15 = true → x4 = .bool false) ∧
    (d 0 = true → x5 = (.agg #[.int .i64 k1, .string s1])) ∧
    (d 1 = true → x6 = .bool false) ∧
    (d 2 = true → x7 = .bool false) ∧
    (d 5 = true → x10 = .bool false) ∧
    (d 6 = true → x11 = .bool false) ∧
    (d 14 = true → x19 = .bool false)

set_option maxRecDepth 100000 in
set_option maxHeartbeats 4000000 in
theorem same_0 (k1 : Int) (s1 : ByteArray) (k2 : Int) (s2 : ByteArray) (hs1 : s1.size ≤ 16777216) (hs2 : s2.size ≤ 16777216) (w : World) (hT : Lib.Utf8Tabs 0 1 w) (hv1 : validS k1 s1.data.toList = false) :
    Calls Tryd.prog 9 #[.agg #[.int .i64 k1, .string s1], .agg #[.int .i64 k2, .string s2]] w fun e w' => e = .returned (.bool (sameS k1 s1.data.toList k2 s2.data.toList)) ∧ Below w.heap.size w w' := by
  obtain ⟨A, hA⟩ : ∃ A, sameS k1 s1.data.toList k2 s2.data.toList = A := ⟨_, rfl⟩
  rw [hA]
  have HA := Lib.hid hA; clear hA
  obtain ⟨F1, hF1⟩ : ∃ F1 : ByteArray, ⟨(foldI [] s1.data.toList).toArray⟩ = F1 := ⟨_, rfl⟩
  obtain ⟨F2, hF2⟩ : ∃ F2 : ByteArray, ⟨(foldI [] s2.data.toList).toArray⟩ = F2 := ⟨_, rfl⟩
  have HF1 := Lib.hid hF1; clear hF1
  have HF2 := Lib.hid hF2; clear hF2
  have HS1 := Lib.hid hs1; have HS2 := Lib.hid hs2; clear hs1 hs2
  have HV1 := Lib.hid hv1; clear hv1
  go_enter Tryd.func9, Tryd.ntmps9
  go_wp2
  obtain ⟨B, hn⟩ : ∃ B, w.heap.size = B := ⟨_, rfl⟩
  obtain ⟨W0, hW0⟩ : ∃ W0, (w.alloc (.cells #[.int .i64 k1, .string s1] 23)).alloc (.cells #[.int .i64 k2, .string s2] 23) = W0 := ⟨_, rfl⟩
  rw [hW0]
  have hw1 : (w.alloc (.cells #[.int .i64 k1, .string s1] 23)).heap.size = B + 1 := by rw [← hn]; simp
  have e1 : ∀ b : Below (B + 1) (w.alloc (.cells #[.int .i64 k1, .string s1] 23)) W0, W0.heap[B]? = some (.cells #[.int .i64 k1, .string s1] 23) := fun b => by
    rw [b.block B (by omega), ← hn]; exact heap_alloc_new w _
  have b1 : Below (B + 1) (w.alloc (.cells #[.int .i64 k1, .string s1] 23)) W0 := by rw [← hW0]; exact (Below.refl _ _).alloc (by omega) _
  have e2 : W0.heap[B + 1]? = some (.cells #[.int .i64 k2, .string s2] 23) := by rw [← hW0, ← hw1]; exact heap_alloc_new _ _
  have h10 : W0.cell? ⟨B, 0, none⟩ = some (.int .i64 k1) := by rw [cell_of_row _ _ 0 _ _ _ (e1 b1)]; rfl
  have h11 : W0.cell? ⟨B, 1, none⟩ = some (.string s1) := by rw [cell_of_row _ _ 1 _ _ _ (e1 b1)]; rfl
  have h20 : W0.cell? ⟨B + 1, 0, none⟩ = some (.int .i64 k2) := by rw [cell_of_row _ _ 0 _ _ _ e2]; rfl
  have h21 : W0.cell? ⟨B + 1, 1, none⟩ = some (.string s2) := by rw [cell_of_row _ _ 1 _ _ _ e2]; rfl
  have hbw : Below B w W0 := (((Below.refl B w).alloc (by omega) _).trans (b1.mono (by omega)))
  have hB2 : B + 1 < W0.heap.size := lt_of_cell h20
  have hB1 : B < W0.heap.size := by omega
  have HT := Lib.hid (Utf8Tabs_below hT (by rw [hn]; exact hbw)); clear hT
  have HBW : Hid (Below B w W0) := Lib.hid hbw
  have HN := Lib.hid hn
  try rw [hw1]
  try rw [hn]
  clear e1 e2 b1 hw1 hn hW0 hbw
  refine wp_region_J (by kernel_rfl) (by kernel_rfl) (sameJ0 k1 k2 s1 s2 F1 F2 B W0) ?first ?steps ?last
  case first =>
    exact ⟨_, _, _, _, _, _, _, rfl, (Below.refl _ _).drew, (fun h => by cases h), (fun h => by cases h), (fun h => by cases h), (fun h => by cases h), (fun h => by cases h), (fun h => by cases h), (fun h => by cases h)⟩
  case steps =>
    refine ⟨?_, ?_, ?_, ?_, ?_, ?_, ?_, ?_, ?_, ?_, ?_, ?_, ?_, ?_, ?_, ?_, trivial⟩
    · rintro d a w hd hdep ⟨x4, x5, x6, x7, x10, x11, x19, rfl, hb, f4, f5, f6, f7, f10, f11, f19⟩
      have c10 := (hb.cell (p := ⟨B, 0, none⟩) hB1).trans h10
      have c11 := (hb.cell (p := ⟨B, 1, none⟩) hB1).trans h11
      have c20 := (hb.cell (p := ⟨B + 1, 0, none⟩) hB2).trans h20
      have c21 := (hb.cell (p := ⟨B + 1, 1, none⟩) hB2).trans h21
      have H4 := Lib.hid f4; clear f4; have H5 := Lib.hid f5; clear f5; have H6 := Lib.hid f6; clear f6; have H7 := Lib.hid f7; clear f7; have H10 := Lib.hid f10; clear f10; have H11 := Lib.hid f11; clear f11; have H19 := Lib.hid f19; clear f19
      clear hd hdep
      go_wp2
      exact ⟨_, _, _, _, _, _, _, rfl, hb, fun h => H4.out (by simpa [updB] using h), fun _ => rfl, fun h => H6.out (by simpa [updB] using h), fun h => H7.out (by simpa [updB] using h), fun h => H10.out (by simpa [updB] using h), fun h => H11.out (by simpa [updB] using h), fun h => H19.out (by simpa [updB] using h)⟩
    · rintro d a w hd hdep ⟨x4, x5, x6, x7, x10, x11, x19, rfl, hb, f4, f5, f6, f7, f10, f11, f19⟩
      have p0 : d 0 = true := hdep ⟨0, .data⟩ (by simp) rfl
      have g := f5 p0; subst g
      have H4 := Lib.hid f4; clear f4; have H6 := Lib.hid f6; clear f6; have H7 := Lib.hid f7; clear f7; have H10 := Lib.hid f10; clear f10; have H11 := Lib.hid f11; clear f11; have H19 := Lib.hid f19; clear f19
      clear hd hdep
      go_wp2_with (go_at_call 18; refine (valid_any k1 s1 HS1.out _ (Utf8Tabs_below HT.out hb)).mono ?_; rintro e w1 ⟨rfl, hbc⟩; rw [HV1.out])
      exact ⟨_, _, _, _, _, _, _, rfl, hb.trans (hbc.mono hb.size), fun h => H4.out (by simpa [updB] using h), fun _ => rfl, fun _ => rfl, fun h => H7.out (by simpa [updB] using h), fun h => H10.out (by simpa [updB] using h), fun h => H11.out (by simpa [updB] using h), fun h => H19.out (by simpa [updB] using h)⟩
    · rintro d a w hd hdep ⟨x4, x5, x6, x7, x10, x11, x19, rfl, hb, f4, f5, f6, f7, f10, f11, f19⟩
      have p1 : d 1 = true := hdep ⟨1, .data⟩ (by simp) rfl
      have g := f6 p1; subst g
      have H4 := Lib.hid f4; clear f4; have H5 := Lib.hid f5; clear f5; have H7 := Lib.hid f7; clear f7; have H10 := Lib.hid f10; clear f10; have H11 := Lib.hid f11; clear f11; have H19 := Lib.hid f19; clear f19
      clear hd hdep
      go_wp2
      exact ⟨_, _, _, _, _, _, _, rfl, hb, fun h => H4.out (by simpa [updB] using h), fun h => H5.out (by simpa [updB] using h), fun _ => rfl, fun _ => rfl, fun h => H10.out (by simpa [updB] using h), fun h => H11.out (by simpa [updB] using h), fun h => H19.out (by simpa [updB] using h)⟩
    · rintro d a w hd hdep ⟨x4, x5, x6, x7, x10, x11, x19, rfl, hb, f4, f5, f6, f7, f10, f11, f19⟩
      have p2 : d 2 = true := hdep ⟨2, .guard⟩ (by simp) rfl
      have g := f7 p2; subst g
      have c10 := (hb.cell (p := ⟨B, 0, none⟩) hB1).trans h10
      have c11 := (hb.cell (p := ⟨B, 1, none⟩) hB1).trans h11
      have c20 := (hb.cell (p := ⟨B + 1, 0, none⟩) hB2).trans h20
      have c21 := (hb.cell (p := ⟨B + 1, 1, none⟩) hB2).trans h21
      have H4 := Lib.hid f4; clear f4; have H5 := Lib.hid f5; clear f5; have H6 := Lib.hid f6; clear f6; have H10 := Lib.hid f10; clear f10; have H11 := Lib.hid f11; clear f11; have H19 := Lib.hid f19; clear f19
      clear hd hdep
      go_wp2
      exact ⟨_, _, _, _, _, _, _, rfl, hb, fun h => H4.out (by simpa [updB] using h), fun h => H5.out (by simpa [updB] using h), fun h => H6.out (by simpa [updB] using h), fun _ => rfl, fun h => H10.out (by simpa [updB] using h), fun h => H11.out (by simpa [updB] using h), fun h => H19.out (by simpa [updB] using h)⟩
    · rintro d a w hd hdep ⟨x4, x5, x6, x7, x10, x11, x19, rfl, hb, f4, f5, f6, f7, f10, f11, f19⟩
      have p2 : d 2 = true := hdep ⟨2, .guard⟩ (by simp) rfl
      have g := f7 p2; subst g
      have H4 := Lib.hid f4; clear f4; have H5 := Lib.hid f5; clear f5; have H6 := Lib.hid f6; clear f6; have H10 := Lib.hid f10; clear f10; have H11 := Lib.hid f11; clear f11; have H19 := Lib.hid f19; clear f19
      clear hd hdep
      go_wp2
      exact ⟨_, _, _, _, _, _, _, rfl, hb, fun h => H4.out (by simpa [updB] using h), fun h => H5.out (by simpa [updB] using h), fun h => H6.out (by simpa [updB] using h), fun _ => rfl, fun h => H10.out (by simpa [updB] using h), fun h => H11.out (by simpa [updB] using h), fun h => H19.out (by simpa [updB] using h)⟩
    · rintro d a w hd hdep ⟨x4, x5, x6, x7, x10, x11, x19, rfl, hb, f4, f5, f6, f7, f10, f11, f19⟩
      have p2 : d 2 = true := hdep ⟨2, .data⟩ (by simp) rfl
      have g := f7 p2; subst g
      have H4 := Lib.hid f4; clear f4; have H5 := Lib.hid f5; clear f5; have H6 := Lib.hid f6; clear f6; have H10 := Lib.hid f10; clear f10; have H11 := Lib.hid f11; clear f11; have H19 := Lib.hid f19; clear f19
      clear hd hdep
      go_wp2
      exact ⟨_, _, _, _, _, _, _, rfl, hb, fun h => H4.out (by simpa [updB] using h), fun h => H5.out (by simpa [updB] using h), fun h => H6.out (by simpa [updB] using h), fun _ => rfl, fun _ => rfl, fun h => H11.out (by simpa [updB] using h), fun h => H19.out (by simpa [updB] using h)⟩
    · rintro d a w hd hdep ⟨x4, x5, x6, x7, x10, x11, x19, rfl, hb, f4, f5, f6, f7, f10, f11, f19⟩
      have p5 : d 5 = true := hdep ⟨5, .data⟩ (by simp) rfl
      have g := f10 p5; subst g
      have H4 := Lib.hid f4; clear f4; have H5 := Lib.hid f5; clear f5; have H6 := Lib.hid f6; clear f6; have H7 := Lib.hid f7; clear f7; have H11 := Lib.hid f11; clear f11; have H19 := Lib.hid f19; clear f19
      clear hd hdep
      go_wp2
      exact ⟨_, _, _, _, _, _, _, rfl, hb, fun h => H4.out (by simpa [updB] using h), fun h => H5.out (by simpa [updB] using h), fun h => H6.out (by simpa [updB] using h), fun h => H7.out (by simpa [updB] using h), fun _ => rfl, fun _ => rfl, fun h => H19.out (by simpa [updB] using h)⟩
    · rintro d a w hd hdep ⟨x4, x5, x6, x7, x10, x11, x19, rfl, hb, f4, f5, f6, f7, f10, f11, f19⟩
      have p6 : d 6 = true := hdep ⟨6, .guard⟩ (by simp) rfl
      have g := f11 p6; subst g
      have H4 := Lib.hid f4; clear f4; have H5 := Lib.hid f5; clear f5; have H6 := Lib.hid f6; clear f6; have H7 := Lib.hid f7; clear f7; have H10 := Lib.hid f10; clear f10; have H19 := Lib.hid f19; clear f19
      clear hd hdep
      go_wp2
      exact ⟨_, _, _, _, _, _, _, rfl, hb, fun h => H4.out (by simpa [updB] using h), fun h => H5.out (by simpa [updB] using h), fun h => H6.out (by simpa [updB] using h), fun h => H7.out (by simpa [updB] using h), fun h => H10.out (by simpa [updB] using h), fun _ => rfl, fun h => H19.out (by simpa [updB] using h)⟩
    · rintro d a w hd hdep ⟨x4, x5, x6, x7, x10, x11, x19, rfl, hb, f4, f5, f6, f7, f10, f11, f19⟩
      have p6 : d 6 = true := hdep ⟨6, .guard⟩ (by simp) rfl
      have g := f11 p6; subst g
      have c10 := (hb.cell (p := ⟨B, 0, none⟩) hB1).trans h10
      have c11 := (hb.cell (p := ⟨B, 1, none⟩) hB1).trans h11
      have c20 := (hb.cell (p := ⟨B + 1, 0, none⟩) hB2).trans h20
      have c21 := (hb.cell (p := ⟨B + 1, 1, none⟩) hB2).trans h21
      have H4 := Lib.hid f4; clear f4; have H5 := Lib.hid f5; clear f5; have H6 := Lib.hid f6; clear f6; have H7 := Lib.hid f7; clear f7; have H10 := Lib.hid f10; clear f10; have H19 := Lib.hid f19; clear f19
      clear hd hdep
      go_wp2
      exact ⟨_, _, _, _, _, _, _, rfl, hb, fun h => H4.out (by simpa [updB] using h), fun h => H5.out (by simpa [updB] using h), fun h => H6.out (by simpa [updB] using h), fun h => H7.out (by simpa [updB] using h), fun h => H10.out (by simpa [updB] using h), fun _ => rfl, fun h => H19.out (by simpa [updB] using h)⟩
    · rintro d a w hd hdep ⟨x4, x5, x6, x7, x10, x11, x19, rfl, hb, f4, f5, f6, f7, f10, f11, f19⟩
      have p6 : d 6 = true := hdep ⟨6, .guard⟩ (by simp) rfl
      have g := f11 p6; subst g
      have H4 := Lib.hid f4; clear f4; have H5 := Lib.hid f5; clear f5; have H6 := Lib.hid f6; clear f6; have H7 := Lib.hid f7; clear f7; have H10 := Lib.hid f10; clear f10; have H19 := Lib.hid f19; clear f19
      clear hd hdep
      go_wp2
      exact ⟨_, _, _, _, _, _, _, rfl, hb, fun h => H4.out (by simpa [updB] using h), fun h => H5.out (by simpa [updB] using h), fun h => H6.out (by simpa [updB] using h), fun h => H7.out (by simpa [updB] using h), fun h => H10.out (by simpa [updB] using h), fun _ => rfl, fun h => H19.out (by simpa [updB] using h)⟩
    · rintro d a w hd hdep ⟨x4, x5, x6, x7, x10, x11, x19, rfl, hb, f4, f5, f6, f7, f10, f11, f19⟩
      have p6 : d 6 = true := hdep ⟨6, .guard⟩ (by simp) rfl
      have g := f11 p6; subst g
      have H4 := Lib.hid f4; clear f4; have H5 := Lib.hid f5; clear f5; have H6 := Lib.hid f6; clear f6; have H7 := Lib.hid f7; clear f7; have H10 := Lib.hid f10; clear f10; have H19 := Lib.hid f19; clear f19
      clear hd hdep
      go_wp2
      exact ⟨_, _, _, _, _, _, _, rfl, hb, fun h => H4.out (by simpa [updB] using h), fun h => H5.out (by simpa [updB] using h), fun h => H6.out (by simpa [updB] using h), fun h => H7.out (by simpa [updB] using h), fun h => H10.out (by simpa [updB] using h), fun _ => rfl, fun h => H19.out (by simpa [updB] using h)⟩
    · rintro d a w hd hdep ⟨x4, x5, x6, x7, x10, x11, x19, rfl, hb, f4, f5, f6, f7, f10, f11, f19⟩
      have p6 : d 6 = true := hdep ⟨6, .guard⟩ (by simp) rfl
      have g := f11 p6; subst g
      have c10 := (hb.cell (p := ⟨B, 0, none⟩) hB1).trans h10
      have c11 := (hb.cell (p := ⟨B, 1, none⟩) hB1).trans h11
      have c20 := (hb.cell (p := ⟨B + 1, 0, none⟩) hB2).trans h20
      have c21 := (hb.cell (p := ⟨B + 1, 1, none⟩) hB2).trans h21
      have H4 := Lib.hid f4; clear f4; have H5 := Lib.hid f5; clear f5; have H6 := Lib.hid f6; clear f6; have H7 := Lib.hid f7; clear f7; have H10 := Lib.hid f10; clear f10; have H19 := Lib.hid f19; clear f19
      clear hd hdep
      go_wp2
      exact ⟨_, _, _, _, _, _, _, rfl, hb, fun h => H4.out (by simpa [updB] using h), fun h => H5.out (by simpa [updB] using h), fun h => H6.out (by simpa [updB] using h), fun h => H7.out (by simpa [updB] using h), fun h => H10.out (by simpa [updB] using h), fun _ => rfl, fun h => H19.out (by simpa [updB] using h)⟩
    · rintro d a w hd hdep ⟨x4, x5, x6, x7, x10, x11, x19, rfl, hb, f4, f5, f6, f7, f10, f11, f19⟩
      have p6 : d 6 = true := hdep ⟨6, .guard⟩ (by simp) rfl
      have g := f11 p6; subst g
      have H4 := Lib.hid f4; clear f4; have H5 := Lib.hid f5; clear f5; have H6 := Lib.hid f6; clear f6; have H7 := Lib.hid f7; clear f7; have H10 := Lib.hid f10; clear f10; have H19 := Lib.hid f19; clear f19
      clear hd hdep
      go_wp2
      exact ⟨_, _, _, _, _, _, _, rfl, hb, fun h => H4.out (by simpa [updB] using h), fun h => H5.out (by simpa [updB] using h), fun h => H6.out (by simpa [updB] using h), fun h => H7.out (by simpa [updB] using h), fun h => H10.out (by simpa [updB] using h), fun _ => rfl, fun h => H19.out (by simpa [updB] using h)⟩
    · rintro d a w hd hdep ⟨x4, x5, x6, x7, x10, x11, x19, rfl, hb, f4, f5, f6, f7, f10, f11, f19⟩
      have p6 : d 6 = true := hdep ⟨6, .guard⟩ (by simp) rfl
      have g := f11 p6; subst g
      have H4 := Lib.hid f4; clear f4; have H5 := Lib.hid f5; clear f5; have H6 := Lib.hid f6; clear f6; have H7 := Lib.hid f7; clear f7; have H10 := Lib.hid f10; clear f10; have H19 := Lib.hid f19; clear f19
      clear hd hdep
      go_wp2
      exact ⟨_, _, _, _, _, _, _, rfl, hb, fun h => H4.out (by simpa [updB] using h), fun h => H5.out (by simpa [updB] using h), fun h => H6.out (by simpa [updB] using h), fun h => H7.out (by simpa [updB] using h), fun h => H10.out (by simpa [updB] using h), fun _ => rfl, fun h => H19.out (by simpa [updB] using h)⟩
    · rintro d a w hd hdep ⟨x4, x5, x6, x7, x10, x11, x19, rfl, hb, f4, f5, f6, f7, f10, f11, f19⟩
      have p6 : d 6 = true := hdep ⟨6, .data⟩ (by simp) rfl
      have g := f11 p6; subst g
      have H4 := Lib.hid f4; clear f4; have H5 := Lib.hid f5; clear f5; have H6 := Lib.hid f6; clear f6; have H7 := Lib.hid f7; clear f7; have H10 := Lib.hid f10; clear f10; have H19 := Lib.hid f19; clear f19
      clear hd hdep
      go_wp2
      exact ⟨_, _, _, _, _, _, _, rfl, hb, fun h => H4.out (by simpa [updB] using h), fun h => H5.out (by simpa [updB] using h), fun h => H6.out (by simpa [updB] using h), fun h => H7.out (by simpa [updB] using h), fun h => H10.out (by simpa [updB] using h), fun _ => rfl, fun _ => rfl⟩
    · rintro d a w hd hdep ⟨x4, x5, x6, x7, x10, x11, x19, rfl, hb, f4, f5, f6, f7, f10, f11, f19⟩
      have p14 : d 14 = true := hdep ⟨14, .data⟩ (by simp) rfl
      have g := f19 p14; subst g
      have H4 := Lib.hid f4; clear f4; have H5 := Lib.hid f5; clear f5; have H6 := Lib.hid f6; clear f6; have H7 := Lib.hid f7; clear f7; have H10 := Lib.hid f10; clear f10; have H11 := Lib.hid f11; clear f11
      clear hd hdep
      go_wp2
      exact ⟨_, _, _, _, _, _, _, rfl, hb, fun _ => rfl, fun h => H5.out (by simpa [updB] using h), fun h => H6.out (by simpa [updB] using h), fun h => H7.out (by simpa [updB] using h), fun h => H10.out (by simpa [updB] using h), fun h => H11.out (by simpa [updB] using h), fun _ => rfl⟩
  case last =>
    rintro a w2 ⟨x4, x5, x6, x7, x10, x11, x19, rfl, hb, f4, f5, f6, f7, f10, f11, f19⟩
    have g := f4 rfl; subst g
    have g := f5 rfl; subst g
    have g := f6 rfl; subst g
    have g := f7 rfl; subst g
    have g := f10 rfl; subst g
    have g := f11 rfl; subst g
    have g := f19 rfl; subst g
    go_wp2
    go_ret
    exact ⟨by rw [← HA.out, sameS_1 HV1.out]; rfl, by rw [HN.out]; exact HBW.out.trans (hb.mono (by omega))⟩

/-- What is known of a region when a set of its operations is done. -/
def sameJ1 (k1 k2 : Int) (s1 s2 F1 F2 : ByteArray) (B : Nat) (W0 : World) (d : Nat → Bool) (a : Act) (w : World) : Prop :=
  ∃ (x4 x5 x6 x7 x8 x9 x10 x11 x19 : Value), a = { tmps := #[(.agg #[.int .i64 k1, .string s1]), (.agg #[.int .i64 k2, .string s2]), (.pointer (some ⟨B, 0, none⟩)), (.pointer (some ⟨B + 1, 0, none⟩)), x4, x5, x6, x7, x8, x9, x10, x11, undef, undef, undef, undef, undef, undef, undef, x19], defers := [] } ∧ Below W0.heap.size W0 w ∧
    (d 15 = true → x4 = .bool false) ∧
    (d 0 = true → x5 = (.agg #[.int .i64 k1, .string s1])) ∧
    (d 1 = true → x6 = .bool true) ∧
    (d 2 = true → x7 = .bool true) ∧
    (d 3 = true → x8 = (.agg #[.int .i64 k2, .string s2])) ∧
    (d 4 = true → x9 = .bool false) ∧
    (d 5 = true → x10 = .bool false) ∧
    (d 6 = true → x11 = .bool false) ∧
    (d 14 = true → x19 = .bool false)

set_option maxRecDepth 100000 in
set_option maxHeartbeats 4000000 in
theorem same_1 (k1 : Int) (s1 : ByteArray) (k2 : Int) (s2 : ByteArray) (hs1 : s1.size ≤ 16777216) (hs2 : s2.size ≤ 16777216) (w : World) (hT : Lib.Utf8Tabs 0 1 w) (hv1 : validS k1 s1.data.toList = true) (hv2 : validS k2 s2.data.toList = false) :
    Calls Tryd.prog 9 #[.agg #[.int .i64 k1, .string s1], .agg #[.int .i64 k2, .string s2]] w fun e w' => e = .returned (.bool (sameS k1 s1.data.toList k2 s2.data.toList)) ∧ Below w.heap.size w w' := by
  obtain ⟨A, hA⟩ : ∃ A, sameS k1 s1.data.toList k2 s2.data.toList = A := ⟨_, rfl⟩
  rw [hA]
  have HA := Lib.hid hA; clear hA
  obtain ⟨F1, hF1⟩ : ∃ F1 : ByteArray, ⟨(foldI [] s1.data.toList).toArray⟩ = F1 := ⟨_, rfl⟩
  obtain ⟨F2, hF2⟩ : ∃ F2 : ByteArray, ⟨(foldI [] s2.data.toList).toArray⟩ = F2 := ⟨_, rfl⟩
  have HF1 := Lib.hid hF1; clear hF1
  have HF2 := Lib.hid hF2; clear hF2
  have HS1 := Lib.hid hs1; have HS2 := Lib.hid hs2; clear hs1 hs2
  have HV1 := Lib.hid hv1; clear hv1
  have HV2 := Lib.hid hv2; clear hv2
  go_enter Tryd.func9, Tryd.ntmps9
  go_wp2
  obtain ⟨B, hn⟩ : ∃ B, w.heap.size = B := ⟨_, rfl⟩
  obtain ⟨W0, hW0⟩ : ∃ W0, (w.alloc (.cells #[.int .i64 k1, .string s1] 23)).alloc (.cells #[.int .i64 k2, .string s2] 23) = W0 := ⟨_, rfl⟩
  rw [hW0]
  have hw1 : (w.alloc (.cells #[.int .i64 k1, .string s1] 23)).heap.size = B + 1 := by rw [← hn]; simp
  have e1 : ∀ b : Below (B + 1) (w.alloc (.cells #[.int .i64 k1, .string s1] 23)) W0, W0.heap[B]? = some (.cells #[.int .i64 k1, .string s1] 23) := fun b => by
    rw [b.block B (by omega), ← hn]; exact heap_alloc_new w _
  have b1 : Below (B + 1) (w.alloc (.cells #[.int .i64 k1, .string s1] 23)) W0 := by rw [← hW0]; exact (Below.refl _ _).alloc (by omega) _
  have e2 : W0.heap[B + 1]? = some (.cells #[.int .i64 k2, .string s2] 23) := by rw [← hW0, ← hw1]; exact heap_alloc_new _ _
  have h10 : W0.cell? ⟨B, 0, none⟩ = some (.int .i64 k1) := by rw [cell_of_row _ _ 0 _ _ _ (e1 b1)]; rfl
  have h11 : W0.cell? ⟨B, 1, none⟩ = some (.string s1) := by rw [cell_of_row _ _ 1 _ _ _ (e1 b1)]; rfl
  have h20 : W0.cell? ⟨B + 1, 0, none⟩ = some (.int .i64 k2) := by rw [cell_of_row _ _ 0 _ _ _ e2]; rfl
  have h21 : W0.cell? ⟨B + 1, 1, none⟩ = some (.string s2) := by rw [cell_of_row _ _ 1 _ _ _ e2]; rfl
  have hbw : Below B w W0 := (((Below.refl B w).alloc (by omega) _).trans (b1.mono (by omega)))
  have hB2 : B + 1 < W0.heap.size := lt_of_cell h20
  have hB1 : B < W0.heap.size := by omega
  have HT := Lib.hid (Utf8Tabs_below hT (by rw [hn]; exact hbw)); clear hT
  have HBW : Hid (Below B w W0) := Lib.hid hbw
  have HN := Lib.hid hn
  try rw [hw1]
  try rw [hn]
  clear e1 e2 b1 hw1 hn hW0 hbw
  refine wp_region_J (by kernel_rfl) (by kernel_rfl) (sameJ1 k1 k2 s1 s2 F1 F2 B W0) ?first ?steps ?last
  case first =>
    exact ⟨_, _, _, _, _, _, _, _, _, rfl, (Below.refl _ _).drew, (fun h => by cases h), (fun h => by cases h), (fun h => by cases h), (fun h => by cases h), (fun h => by cases h), (fun h => by cases h), (fun h => by cases h), (fun h => by cases h), (fun h => by cases h)⟩
  case steps =>
    refine ⟨?_, ?_, ?_, ?_, ?_, ?_, ?_, ?_, ?_, ?_, ?_, ?_, ?_, ?_, ?_, ?_, trivial⟩
    · rintro d a w hd hdep ⟨x4, x5, x6, x7, x8, x9, x10, x11, x19, rfl, hb, f4, f5, f6, f7, f8, f9, f10, f11, f19⟩
      have c10 := (hb.cell (p := ⟨B, 0, none⟩) hB1).trans h10
      have c11 := (hb.cell (p := ⟨B, 1, none⟩) hB1).trans h11
      have c20 := (hb.cell (p := ⟨B + 1, 0, none⟩) hB2).trans h20
      have c21 := (hb.cell (p := ⟨B + 1, 1, none⟩) hB2).trans h21
      have H4 := Lib.hid f4; clear f4; have H5 := Lib.hid f5; clear f5; have H6 := Lib.hid f6; clear f6; have H7 := Lib.hid f7; clear f7; have H8 := Lib.hid f8; clear f8; have H9 := Lib.hid f9; clear f9; have H10 := Lib.hid f10; clear f10; have H11 := Lib.hid f11; clear f11; have H19 := Lib.hid f19; clear f19
      clear hd hdep
      go_wp2
      exact ⟨_, _, _, _, _, _, _, _, _, rfl, hb, fun h => H4.out (by simpa [updB] using h), fun _ => rfl, fun h => H6.out (by simpa [updB] using h), fun h => H7.out (by simpa [updB] using h), fun h => H8.out (by simpa [updB] using h), fun h => H9.out (by simpa [updB] using h), fun h => H10.out (by simpa [updB] using h), fun h => H11.out (by simpa [updB] using h), fun h => H19.out (by simpa [updB] using h)⟩
    · rintro d a w hd hdep ⟨x4, x5, x6, x7, x8, x9, x10, x11, x19, rfl, hb, f4, f5, f6, f7, f8, f9, f10, f11, f19⟩
      have p0 : d 0 = true := hdep ⟨0, .data⟩ (by simp) rfl
      have g := f5 p0; subst g
      have H4 := Lib.hid f4; clear f4; have H6 := Lib.hid f6; clear f6; have H7 := Lib.hid f7; clear f7; have H8 := Lib.hid f8; clear f8; have H9 := Lib.hid f9; clear f9; have H10 := Lib.hid f10; clear f10; have H11 := Lib.hid f11; clear f11; have H19 := Lib.hid f19; clear f19
      clear hd hdep
      go_wp2_with (go_at_call 18; refine (valid_any k1 s1 HS1.out _ (Utf8Tabs_below HT.out hb)).mono ?_; rintro e w1 ⟨rfl, hbc⟩; rw [HV1.out])
      exact ⟨_, _, _, _, _, _, _, _, _, rfl, hb.trans (hbc.mono hb.size), fun h => H4.out (by simpa [updB] using h), fun _ => rfl, fun _ => rfl, fun h => H7.out (by simpa [updB] using h), fun h => H8.out (by simpa [updB] using h), fun h => H9.out (by simpa [updB] using h), fun h => H10.out (by simpa [updB] using h), fun h => H11.out (by simpa [updB] using h), fun h => H19.out (by simpa [updB] using h)⟩
    · rintro d a w hd hdep ⟨x4, x5, x6, x7, x8, x9, x10, x11, x19, rfl, hb, f4, f5, f6, f7, f8, f9, f10, f11, f19⟩
      have p1 : d 1 = true := hdep ⟨1, .data⟩ (by simp) rfl
      have g := f6 p1; subst g
      have H4 := Lib.hid f4; clear f4; have H5 := Lib.hid f5; clear f5; have H7 := Lib.hid f7; clear f7; have H8 := Lib.hid f8; clear f8; have H9 := Lib.hid f9; clear f9; have H10 := Lib.hid f10; clear f10; have H11 := Lib.hid f11; clear f11; have H19 := Lib.hid f19; clear f19
      clear hd hdep
      go_wp2
      exact ⟨_, _, _, _, _, _, _, _, _, rfl, hb, fun h => H4.out (by simpa [updB] using h), fun h => H5.out (by simpa [updB] using h), fun _ => rfl, fun _ => rfl, fun h => H8.out (by simpa [updB] using h), fun h => H9.out (by simpa [updB] using h), fun h => H10.out (by simpa [updB] using h), fun h => H11.out (by simpa [updB] using h), fun h => H19.out (by simpa [updB] using h)⟩
    · rintro d a w hd hdep ⟨x4, x5, x6, x7, x8, x9, x10, x11, x19, rfl, hb, f4, f5, f6, f7, f8, f9, f10, f11, f19⟩
      have p2 : d 2 = true := hdep ⟨2, .guard⟩ (by simp) rfl
      have g := f7 p2; subst g
      have c10 := (hb.cell (p := ⟨B, 0, none⟩) hB1).trans h10
      have c11 := (hb.cell (p := ⟨B, 1, none⟩) hB1).trans h11
      have c20 := (hb.cell (p := ⟨B + 1, 0, none⟩) hB2).trans h20
      have c21 := (hb.cell (p := ⟨B + 1, 1, none⟩) hB2).trans h21
      have H4 := Lib.hid f4; clear f4; have H5 := Lib.hid f5; clear f5; have H6 := Lib.hid f6; clear f6; have H8 := Lib.hid f8; clear f8; have H9 := Lib.hid f9; clear f9; have H10 := Lib.hid f10; clear f10; have H11 := Lib.hid f11; clear f11; have H19 := Lib.hid f19; clear f19
      clear hd hdep
      go_wp2
      exact ⟨_, _, _, _, _, _, _, _, _, rfl, hb, fun h => H4.out (by simpa [updB] using h), fun h => H5.out (by simpa [updB] using h), fun h => H6.out (by simpa [updB] using h), fun _ => rfl, fun _ => rfl, fun h => H9.out (by simpa [updB] using h), fun h => H10.out (by simpa [updB] using h), fun h => H11.out (by simpa [updB] using h), fun h => H19.out (by simpa [updB] using h)⟩
    · rintro d a w hd hdep ⟨x4, x5, x6, x7, x8, x9, x10, x11, x19, rfl, hb, f4, f5, f6, f7, f8, f9, f10, f11, f19⟩
      have p2 : d 2 = true := hdep ⟨2, .guard⟩ (by simp) rfl
      have g := f7 p2; subst g
      have p3 : d 3 = true := hdep ⟨3, .data⟩ (by simp) rfl
      have g := f8 p3; subst g
      have H4 := Lib.hid f4; clear f4; have H5 := Lib.hid f5; clear f5; have H6 := Lib.hid f6; clear f6; have H9 := Lib.hid f9; clear f9; have H10 := Lib.hid f10; clear f10; have H11 := Lib.hid f11; clear f11; have H19 := Lib.hid f19; clear f19
      clear hd hdep
      go_wp2_with (go_at_call 18; refine (valid_any k2 s2 HS2.out _ (Utf8Tabs_below HT.out hb)).mono ?_; rintro e w1 ⟨rfl, hbc⟩; rw [HV2.out])
      exact ⟨_, _, _, _, _, _, _, _, _, rfl, hb.trans (hbc.mono hb.size), fun h => H4.out (by simpa [updB] using h), fun h => H5.out (by simpa [updB] using h), fun h => H6.out (by simpa [updB] using h), fun _ => rfl, fun _ => rfl, fun _ => rfl, fun h => H10.out (by simpa [updB] using h), fun h => H11.out (by simpa [updB] using h), fun h => H19.out (by simpa [updB] using h)⟩
    · rintro d a w hd hdep ⟨x4, x5, x6, x7, x8, x9, x10, x11, x19, rfl, hb, f4, f5, f6, f7, f8, f9, f10, f11, f19⟩
      have p2 : d 2 = true := hdep ⟨2, .data⟩ (by simp) rfl
      have g := f7 p2; subst g
      have p4 : d 4 = true := hdep ⟨4, .data⟩ (by simp) rfl
      have g := f9 p4; subst g
      have H4 := Lib.hid f4; clear f4; have H5 := Lib.hid f5; clear f5; have H6 := Lib.hid f6; clear f6; have H8 := Lib.hid f8; clear f8; have H10 := Lib.hid f10; clear f10; have H11 := Lib.hid f11; clear f11; have H19 := Lib.hid f19; clear f19
      clear hd hdep
      go_wp2
      exact ⟨_, _, _, _, _, _, _, _, _, rfl, hb, fun h => H4.out (by simpa [updB] using h), fun h => H5.out (by simpa [updB] using h), fun h => H6.out (by simpa [updB] using h), fun _ => rfl, fun h => H8.out (by simpa [updB] using h), fun _ => rfl, fun _ => rfl, fun h => H11.out (by simpa [updB] using h), fun h => H19.out (by simpa [updB] using h)⟩
    · rintro d a w hd hdep ⟨x4, x5, x6, x7, x8, x9, x10, x11, x19, rfl, hb, f4, f5, f6, f7, f8, f9, f10, f11, f19⟩
      have p5 : d 5 = true := hdep ⟨5, .data⟩ (by simp) rfl
      have g := f10 p5; subst g
      have H4 := Lib.hid f4; clear f4; have H5 := Lib.hid f5; clear f5; have H6 := Lib.hid f6; clear f6; have H7 := Lib.hid f7; clear f7; have H8 := Lib.hid f8; clear f8; have H9 := Lib.hid f9; clear f9; have H11 := Lib.hid f11; clear f11; have H19 := Lib.hid f19; clear f19
      clear hd hdep
      go_wp2
      exact ⟨_, _, _, _, _, _, _, _, _, rfl, hb, fun h => H4.out (by simpa [updB] using h), fun h => H5.out (by simpa [updB] using h), fun h => H6.out (by simpa [updB] using h), fun h => H7.out (by simpa [updB] using h), fun h => H8.out (by simpa [updB] using h), fun h => H9.out (by simpa [updB] using h), fun _ => rfl, fun _ => rfl, fun h => H19.out (by simpa [updB] using h)⟩
    · rintro d a w hd hdep ⟨x4, x5, x6, x7, x8, x9, x10, x11, x19, rfl, hb, f4, f5, f6, f7, f8, f9, f10, f11, f19⟩
      have p6 : d 6 = true := hdep ⟨6, .guard⟩ (by simp) rfl
      have g := f11 p6; subst g
      have H4 := Lib.hid f4; clear f4; have H5 := Lib.hid f5; clear f5; have H6 := Lib.hid f6; clear f6; have H7 := Lib.hid f7; clear f7; have H8 := Lib.hid f8; clear f8; have H9 := Lib.hid f9; clear f9; have H10 := Lib.hid f10; clear f10; have H19 := Lib.hid f19; clear f19
      clear hd hdep
      go_wp2
      exact ⟨_, _, _, _, _, _, _, _, _, rfl, hb, fun h => H4.out (by simpa [updB] using h), fun h => H5.out (by simpa [updB] using h), fun h => H6.out (by simpa [updB] using h), fun h => H7.out (by simpa [updB] using h), fun h => H8.out (by simpa [updB] using h), fun h => H9.out (by simpa [updB] using h), fun h => H10.out (by simpa [updB] using h), fun _ => rfl, fun h => H19.out (by simpa [updB] using h)⟩
    · rintro d a w hd hdep ⟨x4, x5, x6, x7, x8, x9, x10, x11, x19, rfl, hb, f4, f5, f6, f7, f8, f9, f10, f11, f19⟩
      have p6 : d 6 = true := hdep ⟨6, .guard⟩ (by simp) rfl
      have g := f11 p6; subst g
      have c10 := (hb.cell (p := ⟨B, 0, none⟩) hB1).trans h10
      have c11 := (hb.cell (p := ⟨B, 1, none⟩) hB1).trans h11
      have c20 := (hb.cell (p := ⟨B + 1, 0, none⟩) hB2).trans h20
      have c21 := (hb.cell (p := ⟨B + 1, 1, none⟩) hB2).trans h21
      have H4 := Lib.hid f4; clear f4; have H5 := Lib.hid f5; clear f5; have H6 := Lib.hid f6; clear f6; have H7 := Lib.hid f7; clear f7; have H8 := Lib.hid f8; clear f8; have H9 := Lib.hid f9; clear f9; have H10 := Lib.hid f10; clear f10; have H19 := Lib.hid f19; clear f19
      clear hd hdep
      go_wp2
      exact ⟨_, _, _, _, _, _, _, _, _, rfl, hb, fun h => H4.out (by simpa [updB] using h), fun h => H5.out (by simpa [updB] using h), fun h => H6.out (by simpa [updB] using h), fun h => H7.out (by simpa [updB] using h), fun h => H8.out (by simpa [updB] using h), fun h => H9.out (by simpa [updB] using h), fun h => H10.out (by simpa [updB] using h), fun _ => rfl, fun h => H19.out (by simpa [updB] using h)⟩
    · rintro d a w hd hdep ⟨x4, x5, x6, x7, x8, x9, x10, x11, x19, rfl, hb, f4, f5, f6, f7, f8, f9, f10, f11, f19⟩
      have p6 : d 6 = true := hdep ⟨6, .guard⟩ (by simp) rfl
      have g := f11 p6; subst g
      have H4 := Lib.hid f4; clear f4; have H5 := Lib.hid f5; clear f5; have H6 := Lib.hid f6; clear f6; have H7 := Lib.hid f7; clear f7; have H8 := Lib.hid f8; clear f8; have H9 := Lib.hid f9; clear f9; have H10 := Lib.hid f10; clear f10; have H19 := Lib.hid f19; clear f19
      clear hd hdep
      go_wp2
      exact ⟨_, _, _, _, _, _, _, _, _, rfl, hb, fun h => H4.out (by simpa [updB] using h), fun h => H5.out (by simpa [updB] using h), fun h => H6.out (by simpa [updB] using h), fun h => H7.out (by simpa [updB] using h), fun h => H8.out (by simpa [updB] using h), fun h => H9.out (by simpa [updB] using h), fun h => H10.out (by simpa [updB] using h), fun _ => rfl, fun h => H19.out (by simpa [updB] using h)⟩
    · rintro d a w hd hdep ⟨x4, x5, x6, x7, x8, x9, x10, x11, x19, rfl, hb, f4, f5, f6, f7, f8, f9, f10, f11, f19⟩
      have p6 : d 6 = true := hdep ⟨6, .guard⟩ (by simp) rfl
      have g := f11 p6; subst g
      have H4 := Lib.hid f4; clear f4; have H5 := Lib.hid f5; clear f5; have H6 := Lib.hid f6; clear f6; have H7 := Lib.hid f7; clear f7; have H8 := Lib.hid f8; clear f8; have H9 := Lib.hid f9; clear f9; have H10 := Lib.hid f10; clear f10; have H19 := Lib.hid f19; clear f19
      clear hd hdep
      go_wp2
      exact ⟨_, _, _, _, _, _, _, _, _, rfl, hb, fun h => H4.out (by simpa [updB] using h), fun h => H5.out (by simpa [updB] using h), fun h => H6.out (by simpa [updB] using h), fun h => H7.out (by simpa [updB] using h), fun h => H8.out (by simpa [updB] using h), fun h => H9.out (by simpa [updB] using h), fun h => H10.out (by simpa [updB] using h), fun _ => rfl, fun h => H19.out (by simpa [updB] using h)⟩
    · rintro d a w hd hdep ⟨x4, x5, x6, x7, x8, x9, x10, x11, x19, rfl, hb, f4, f5, f6, f7, f8, f9, f10, f11, f19⟩
      have p6 : d 6 = true := hdep ⟨6, .guard⟩ (by simp) rfl
      have g := f11 p6; subst g
      have c10 := (hb.cell (p := ⟨B, 0, none⟩) hB1).trans h10
      have c11 := (hb.cell (p := ⟨B, 1, none⟩) hB1).trans h11
      have c20 := (hb.cell (p := ⟨B + 1, 0, none⟩) hB2).trans h20
      have c21 := (hb.cell (p := ⟨B + 1, 1, none⟩) hB2).trans h21
      have H4 := Lib.hid f4; clear f4; have H5 := Lib.hid f5; clear f5; have H6 := Lib.hid f6; clear f6; have H7 := Lib.hid f7; clear f7; have H8 := Lib.hid f8; clear f8; have H9 := Lib.hid f9; clear f9; have H10 := Lib.hid f10; clear f10; have H19 := Lib.hid f19; clear f19
      clear hd hdep
      go_wp2
      exact ⟨_, _, _, _, _, _, _, _, _, rfl, hb, fun h => H4.out (by simpa [updB] using h), fun h => H5.out (by simpa [updB] using h), fun h => H6.out (by simpa [updB] using h), fun h => H7.out (by simpa [updB] using h), fun h => H8.out (by simpa [updB] using h), fun h => H9.out (by simpa [updB] using h), fun h => H10.out (by simpa [updB] using h), fun _ => rfl, fun h => H19.out (by simpa [updB] using h)⟩
    · rintro d a w hd hdep ⟨x4, x5, x6, x7, x8, x9, x10, x11, x19, rfl, hb, f4, f5, f6, f7, f8, f9, f10, f11, f19⟩
      have p6 : d 6 = true := hdep ⟨6, .guard⟩ (by simp) rfl
      have g := f11 p6; subst g
      have H4 := Lib.hid f4; clear f4; have H5 := Lib.hid f5; clear f5; have H6 := Lib.hid f6; clear f6; have H7 := Lib.hid f7; clear f7; have H8 := Lib.hid f8; clear f8; have H9 := Lib.hid f9; clear f9; have H10 := Lib.hid f10; clear f10; have H19 := Lib.hid f19; clear f19
      clear hd hdep
      go_wp2
      exact ⟨_, _, _, _, _, _, _, _, _, rfl, hb, fun h => H4.out (by simpa [updB] using h), fun h => H5.out (by simpa [updB] using h), fun h => H6.out (by simpa [updB] using h), fun h => H7.out (by simpa [updB] using h), fun h => H8.out (by simpa [updB] using h), fun h => H9.out (by simpa [updB] using h), fun h => H10.out (by simpa [updB] using h), fun _ => rfl, fun h => H19.out (by simpa [updB] using h)⟩
    · rintro d a w hd hdep ⟨x4, x5, x6, x7, x8, x9, x10, x11, x19, rfl, hb, f4, f5, f6, f7, f8, f9, f10, f11, f19⟩
      have p6 : d 6 = true := hdep ⟨6, .guard⟩ (by simp) rfl
      have g := f11 p6; subst g
      have H4 := Lib.hid f4; clear f4; have H5 := Lib.hid f5; clear f5; have H6 := Lib.hid f6; clear f6; have H7 := Lib.hid f7; clear f7; have H8 := Lib.hid f8; clear f8; have H9 := Lib.hid f9; clear f9; have H10 := Lib.hid f10; clear f10; have H19 := Lib.hid f19; clear f19
      clear hd hdep
      go_wp2
      exact ⟨_, _, _, _, _, _, _, _, _, rfl, hb, fun h => H4.out (by simpa [updB] using h), fun h => H5.out (by simpa [updB] using h), fun h => H6.out (by simpa [updB] using h), fun h => H7.out (by simpa [updB] using h), fun h => H8.out (by simpa [updB] using h), fun h => H9.out (by simpa [updB] using h), fun h => H10.out (by simpa [updB] using h), fun _ => rfl, fun h => H19.out (by simpa [updB] using h)⟩
    · rintro d a w hd hdep ⟨x4, x5, x6, x7, x8, x9, x10, x11, x19, rfl, hb, f4, f5, f6, f7, f8, f9, f10, f11, f19⟩
      have p6 : d 6 = true := hdep ⟨6, .data⟩ (by simp) rfl
      have g := f11 p6; subst g
      have H4 := Lib.hid f4; clear f4; have H5 := Lib.hid f5; clear f5; have H6 := Lib.hid f6; clear f6; have H7 := Lib.hid f7; clear f7; have H8 := Lib.hid f8; clear f8; have H9 := Lib.hid f9; clear f9; have H10 := Lib.hid f10; clear f10; have H19 := Lib.hid f19; clear f19
      clear hd hdep
      go_wp2
      exact ⟨_, _, _, _, _, _, _, _, _, rfl, hb, fun h => H4.out (by simpa [updB] using h), fun h => H5.out (by simpa [updB] using h), fun h => H6.out (by simpa [updB] using h), fun h => H7.out (by simpa [updB] using h), fun h => H8.out (by simpa [updB] using h), fun h => H9.out (by simpa [updB] using h), fun h => H10.out (by simpa [updB] using h), fun _ => rfl, fun _ => rfl⟩
    · rintro d a w hd hdep ⟨x4, x5, x6, x7, x8, x9, x10, x11, x19, rfl, hb, f4, f5, f6, f7, f8, f9, f10, f11, f19⟩
      have p14 : d 14 = true := hdep ⟨14, .data⟩ (by simp) rfl
      have g := f19 p14; subst g
      have H4 := Lib.hid f4; clear f4; have H5 := Lib.hid f5; clear f5; have H6 := Lib.hid f6; clear f6; have H7 := Lib.hid f7; clear f7; have H8 := Lib.hid f8; clear f8; have H9 := Lib.hid f9; clear f9; have H10 := Lib.hid f10; clear f10; have H11 := Lib.hid f11; clear f11
      clear hd hdep
      go_wp2
      exact ⟨_, _, _, _, _, _, _, _, _, rfl, hb, fun _ => rfl, fun h => H5.out (by simpa [updB] using h), fun h => H6.out (by simpa [updB] using h), fun h => H7.out (by simpa [updB] using h), fun h => H8.out (by simpa [updB] using h), fun h => H9.out (by simpa [updB] using h), fun h => H10.out (by simpa [updB] using h), fun h => H11.out (by simpa [updB] using h), fun _ => rfl⟩
  case last =>
    rintro a w2 ⟨x4, x5, x6, x7, x8, x9, x10, x11, x19, rfl, hb, f4, f5, f6, f7, f8, f9, f10, f11, f19⟩
    have g := f4 rfl; subst g
    have g := f5 rfl; subst g
    have g := f6 rfl; subst g
    have g := f7 rfl; subst g
    have g := f8 rfl; subst g
    have g := f9 rfl; subst g
    have g := f10 rfl; subst g
    have g := f11 rfl; subst g
    have g := f19 rfl; subst g
    go_wp2
    go_ret
    exact ⟨by rw [← HA.out, sameS_2 HV2.out]; rfl, by rw [HN.out]; exact HBW.out.trans (hb.mono (by omega))⟩

/-- What is known of a region when a set of its operations is done. -/
def sameJ2 (k1 k2 : Int) (s1 s2 F1 F2 : ByteArray) (B : Nat) (W0 : World) (d : Nat → Bool) (a : Act) (w : World) : Prop :=
  ∃ (x4 x5 x6 x7 x8 x9 x10 x11 x12 x13 x14 x15 x16 x17 x18 x19 : Value), a = { tmps := #[(.agg #[.int .i64 k1, .string s1]), (.agg #[.int .i64 k2, .string s2]), (.pointer (some ⟨B, 0, none⟩)), (.pointer (some ⟨B + 1, 0, none⟩)), x4, x5, x6, x7, x8, x9, x10, x11, x12, x13, x14, x15, x16, x17, x18, x19], defers := [] } ∧ Below W0.heap.size W0 w ∧
    (d 15 = true → x4 = .bool (F1.toList == F2.toList)) ∧
    (d 0 = true → x5 = (.agg #[.int .i64 k1, .string s1])) ∧
    (d 1 = true → x6 = .bool true) ∧
    (d 2 = true → x7 = .bool true) ∧
    (d 3 = true → x8 = (.agg #[.int .i64 k2, .string s2])) ∧
    (d 4 = true → x9 = .bool true) ∧
    (d 5 = true → x10 = .bool true) ∧
    (d 6 = true → x11 = .bool true) ∧
    (d 7 = true → x12 = (.pointer (some ⟨B, 1, none⟩))) ∧
    (d 8 = true → x13 = (.string s1)) ∧
    (d 9 = true → x14 = (.string F1)) ∧
    (d 10 = true → x15 = (.pointer (some ⟨B + 1, 1, none⟩))) ∧
    (d 11 = true → x16 = (.string s2)) ∧
    (d 12 = true → x17 = (.string F2)) ∧
    (d 13 = true → x18 = .bool (F1.toList == F2.toList)) ∧
    (d 14 = true → x19 = .bool (F1.toList == F2.toList))

set_option maxRecDepth 100000 in
set_option maxHeartbeats 4000000 in
theorem same_2 (k1 : Int) (s1 : ByteArray) (k2 : Int) (s2 : ByteArray) (hs1 : s1.size ≤ 16777216) (hs2 : s2.size ≤ 16777216) (w : World) (hT : Lib.Utf8Tabs 0 1 w) (hv1 : validS k1 s1.data.toList = true) (hv2 : validS k2 s2.data.toList = true) :
    Calls Tryd.prog 9 #[.agg #[.int .i64 k1, .string s1], .agg #[.int .i64 k2, .string s2]] w fun e w' => e = .returned (.bool (sameS k1 s1.data.toList k2 s2.data.toList)) ∧ Below w.heap.size w w' := by
  obtain ⟨A, hA⟩ : ∃ A, sameS k1 s1.data.toList k2 s2.data.toList = A := ⟨_, rfl⟩
  rw [hA]
  have HA := Lib.hid hA; clear hA
  obtain ⟨F1, hF1⟩ : ∃ F1 : ByteArray, ⟨(foldI [] s1.data.toList).toArray⟩ = F1 := ⟨_, rfl⟩
  obtain ⟨F2, hF2⟩ : ∃ F2 : ByteArray, ⟨(foldI [] s2.data.toList).toArray⟩ = F2 := ⟨_, rfl⟩
  have HF1 := Lib.hid hF1; clear hF1
  have HF2 := Lib.hid hF2; clear hF2
  have HS1 := Lib.hid hs1; have HS2 := Lib.hid hs2; clear hs1 hs2
  have HV1 := Lib.hid hv1; clear hv1
  have HV2 := Lib.hid hv2; clear hv2
  go_enter Tryd.func9, Tryd.ntmps9
  go_wp2
  obtain ⟨B, hn⟩ : ∃ B, w.heap.size = B := ⟨_, rfl⟩
  obtain ⟨W0, hW0⟩ : ∃ W0, (w.alloc (.cells #[.int .i64 k1, .string s1] 23)).alloc (.cells #[.int .i64 k2, .string s2] 23) = W0 := ⟨_, rfl⟩
  rw [hW0]
  have hw1 : (w.alloc (.cells #[.int .i64 k1, .string s1] 23)).heap.size = B + 1 := by rw [← hn]; simp
  have e1 : ∀ b : Below (B + 1) (w.alloc (.cells #[.int .i64 k1, .string s1] 23)) W0, W0.heap[B]? = some (.cells #[.int .i64 k1, .string s1] 23) := fun b => by
    rw [b.block B (by omega), ← hn]; exact heap_alloc_new w _
  have b1 : Below (B + 1) (w.alloc (.cells #[.int .i64 k1, .string s1] 23)) W0 := by rw [← hW0]; exact (Below.refl _ _).alloc (by omega) _
  have e2 : W0.heap[B + 1]? = some (.cells #[.int .i64 k2, .string s2] 23) := by rw [← hW0, ← hw1]; exact heap_alloc_new _ _
  have h10 : W0.cell? ⟨B, 0, none⟩ = some (.int .i64 k1) := by rw [cell_of_row _ _ 0 _ _ _ (e1 b1)]; rfl
  have h11 : W0.cell? ⟨B, 1, none⟩ = some (.string s1) := by rw [cell_of_row _ _ 1 _ _ _ (e1 b1)]; rfl
  have h20 : W0.cell? ⟨B + 1, 0, none⟩ = some (.int .i64 k2) := by rw [cell_of_row _ _ 0 _ _ _ e2]; rfl
  have h21 : W0.cell? ⟨B + 1, 1, none⟩ = some (.string s2) := by rw [cell_of_row _ _ 1 _ _ _ e2]; rfl
  have hbw : Below B w W0 := (((Below.refl B w).alloc (by omega) _).trans (b1.mono (by omega)))
  have hB2 : B + 1 < W0.heap.size := lt_of_cell h20
  have hB1 : B < W0.heap.size := by omega
  have HT := Lib.hid (Utf8Tabs_below hT (by rw [hn]; exact hbw)); clear hT
  have HBW : Hid (Below B w W0) := Lib.hid hbw
  have HN := Lib.hid hn
  try rw [hw1]
  try rw [hn]
  clear e1 e2 b1 hw1 hn hW0 hbw
  refine wp_region_J (by kernel_rfl) (by kernel_rfl) (sameJ2 k1 k2 s1 s2 F1 F2 B W0) ?first ?steps ?last
  case first =>
    exact ⟨_, _, _, _, _, _, _, _, _, _, _, _, _, _, _, _, rfl, (Below.refl _ _).drew, (fun h => by cases h), (fun h => by cases h), (fun h => by cases h), (fun h => by cases h), (fun h => by cases h), (fun h => by cases h), (fun h => by cases h), (fun h => by cases h), (fun h => by cases h), (fun h => by cases h), (fun h => by cases h), (fun h => by cases h), (fun h => by cases h), (fun h => by cases h), (fun h => by cases h), (fun h => by cases h)⟩
  case steps =>
    refine ⟨?_, ?_, ?_, ?_, ?_, ?_, ?_, ?_, ?_, ?_, ?_, ?_, ?_, ?_, ?_, ?_, trivial⟩
    · rintro d a w hd hdep ⟨x4, x5, x6, x7, x8, x9, x10, x11, x12, x13, x14, x15, x16, x17, x18, x19, rfl, hb, f4, f5, f6, f7, f8, f9, f10, f11, f12, f13, f14, f15, f16, f17, f18, f19⟩
      have c10 := (hb.cell (p := ⟨B, 0, none⟩) hB1).trans h10
      have c11 := (hb.cell (p := ⟨B, 1, none⟩) hB1).trans h11
      have c20 := (hb.cell (p := ⟨B + 1, 0, none⟩) hB2).trans h20
      have c21 := (hb.cell (p := ⟨B + 1, 1, none⟩) hB2).trans h21
      have H4 := Lib.hid f4; clear f4; have H5 := Lib.hid f5; clear f5; have H6 := Lib.hid f6; clear f6; have H7 := Lib.hid f7; clear f7; have H8 := Lib.hid f8; clear f8; have H9 := Lib.hid f9; clear f9; have H10 := Lib.hid f10; clear f10; have H11 := Lib.hid f11; clear f11; have H12 := Lib.hid f12; clear f12; have H13 := Lib.hid f13; clear f13; have H14 := Lib.hid f14; clear f14; have H15 := Lib.hid f15; clear f15; have H16 := Lib.hid f16; clear f16; have H17 := Lib.hid f17; clear f17; have H18 := Lib.hid f18; clear f18; have H19 := Lib.hid f19; clear f19
      clear hd hdep
      go_wp2
      exact ⟨_, _, _, _, _, _, _, _, _, _, _, _, _, _, _, _, rfl, hb, fun h => H4.out (by simpa [updB] using h), fun _ => rfl, fun h => H6.out (by simpa [updB] using h), fun h => H7.out (by simpa [updB] using h), fun h => H8.out (by simpa [updB] using h), fun h => H9.out (by simpa [updB] using h), fun h => H10.out (by simpa [updB] using h), fun h => H11.out (by simpa [updB] using h), fun h => H12.out (by simpa [updB] using h), fun h => H13.out (by simpa [updB] using h), fun h => H14.out (by simpa [updB] using h), fun h => H15.out (by simpa [updB] using h), fun h => H16.out (by simpa [updB] using h), fun h => H17.out (by simpa [updB] using h), fun h => H18.out (by simpa [updB] using h), fun h => H19.out (by simpa [updB] using h)⟩
    · rintro d a w hd hdep ⟨x4, x5, x6, x7, x8, x9, x10, x11, x12, x13, x14, x15, x16, x17, x18, x19, rfl, hb, f4, f5, f6, f7, f8, f9, f10, f11, f12, f13, f14, f15, f16, f17, f18, f19⟩
      have p0 : d 0 = true := hdep ⟨0, .data⟩ (by simp) rfl
      have g := f5 p0; subst g
      have H4 := Lib.hid f4; clear f4; have H6 := Lib.hid f6; clear f6; have H7 := Lib.hid f7; clear f7; have H8 := Lib.hid f8; clear f8; have H9 := Lib.hid f9; clear f9; have H10 := Lib.hid f10; clear f10; have H11 := Lib.hid f11; clear f11; have H12 := Lib.hid f12; clear f12; have H13 := Lib.hid f13; clear f13; have H14 := Lib.hid f14; clear f14; have H15 := Lib.hid f15; clear f15; have H16 := Lib.hid f16; clear f16; have H17 := Lib.hid f17; clear f17; have H18 := Lib.hid f18; clear f18; have H19 := Lib.hid f19; clear f19
      clear hd hdep
      go_wp2_with (go_at_call 18; refine (valid_any k1 s1 HS1.out _ (Utf8Tabs_below HT.out hb)).mono ?_; rintro e w1 ⟨rfl, hbc⟩; rw [HV1.out])
      exact ⟨_, _, _, _, _, _, _, _, _, _, _, _, _, _, _, _, rfl, hb.trans (hbc.mono hb.size), fun h => H4.out (by simpa [updB] using h), fun _ => rfl, fun _ => rfl, fun h => H7.out (by simpa [updB] using h), fun h => H8.out (by simpa [updB] using h), fun h => H9.out (by simpa [updB] using h), fun h => H10.out (by simpa [updB] using h), fun h => H11.out (by simpa [updB] using h), fun h => H12.out (by simpa [updB] using h), fun h => H13.out (by simpa [updB] using h), fun h => H14.out (by simpa [updB] using h), fun h => H15.out (by simpa [updB] using h), fun h => H16.out (by simpa [updB] using h), fun h => H17.out (by simpa [updB] using h), fun h => H18.out (by simpa [updB] using h), fun h => H19.out (by simpa [updB] using h)⟩
    · rintro d a w hd hdep ⟨x4, x5, x6, x7, x8, x9, x10, x11, x12, x13, x14, x15, x16, x17, x18, x19, rfl, hb, f4, f5, f6, f7, f8, f9, f10, f11, f12, f13, f14, f15, f16, f17, f18, f19⟩
      have p1 : d 1 = true := hdep ⟨1, .data⟩ (by simp) rfl
      have g := f6 p1; subst g
      have H4 := Lib.hid f4; clear f4; have H5 := Lib.hid f5; clear f5; have H7 := Lib.hid f7; clear f7; have H8 := Lib.hid f8; clear f8; have H9 := Lib.hid f9; clear f9; have H10 := Lib.hid f10; clear f10; have H11 := Lib.hid f11; clear f11; have H12 := Lib.hid f12; clear f12; have H13 := Lib.hid f13; clear f13; have H14 := Lib.hid f14; clear f14; have H15 := Lib.hid f15; clear f15; have H16 := Lib.hid f16; clear f16; have H17 := Lib.hid f17; clear f17; have H18 := Lib.hid f18; clear f18; have H19 := Lib.hid f19; clear f19
      clear hd hdep
      go_wp2
      exact ⟨_, _, _, _, _, _, _, _, _, _, _, _, _, _, _, _, rfl, hb, fun h => H4.out (by simpa [updB] using h), fun h => H5.out (by simpa [updB] using h), fun _ => rfl, fun _ => rfl, fun h => H8.out (by simpa [updB] using h), fun h => H9.out (by simpa [updB] using h), fun h => H10.out (by simpa [updB] using h), fun h => H11.out (by simpa [updB] using h), fun h => H12.out (by simpa [updB] using h), fun h => H13.out (by simpa [updB] using h), fun h => H14.out (by simpa [updB] using h), fun h => H15.out (by simpa [updB] using h), fun h => H16.out (by simpa [updB] using h), fun h => H17.out (by simpa [updB] using h), fun h => H18.out (by simpa [updB] using h), fun h => H19.out (by simpa [updB] using h)⟩
    · rintro d a w hd hdep ⟨x4, x5, x6, x7, x8, x9, x10, x11, x12, x13, x14, x15, x16, x17, x18, x19, rfl, hb, f4, f5, f6, f7, f8, f9, f10, f11, f12, f13, f14, f15, f16, f17, f18, f19⟩
      have p2 : d 2 = true := hdep ⟨2, .guard⟩ (by simp) rfl
      have g := f7 p2; subst g
      have c10 := (hb.cell (p := ⟨B, 0, none⟩) hB1).trans h10
      have c11 := (hb.cell (p := ⟨B, 1, none⟩) hB1).trans h11
      have c20 := (hb.cell (p := ⟨B + 1, 0, none⟩) hB2).trans h20
      have c21 := (hb.cell (p := ⟨B + 1, 1, none⟩) hB2).trans h21
      have H4 := Lib.hid f4; clear f4; have H5 := Lib.hid f5; clear f5; have H6 := Lib.hid f6; clear f6; have H8 := Lib.hid f8; clear f8; have H9 := Lib.hid f9; clear f9; have H10 := Lib.hid f10; clear f10; have H11 := Lib.hid f11; clear f11; have H12 := Lib.hid f12; clear f12; have H13 := Lib.hid f13; clear f13; have H14 := Lib.hid f14; clear f14; have H15 := Lib.hid f15; clear f15; have H16 := Lib.hid f16; clear f16; have H17 := Lib.hid f17; clear f17; have H18 := Lib.hid f18; clear f18; have H19 := Lib.hid f19; clear f19
      clear hd hdep
      go_wp2
      exact ⟨_, _, _, _, _, _, _, _, _, _, _, _, _, _, _, _, rfl, hb, fun h => H4.out (by simpa [updB] using h), fun h => H5.out (by simpa [updB] using h), fun h => H6.out (by simpa [updB] using h), fun _ => rfl, fun _ => rfl, fun h => H9.out (by simpa [updB] using h), fun h => H10.out (by simpa [updB] using h), fun h => H11.out (by simpa [updB] using h), fun h => H12.out (by simpa [updB] using h), fun h => H13.out (by simpa [updB] using h), fun h => H14.out (by simpa [updB] using h), fun h => H15.out (by simpa [updB] using h), fun h => H16.out (by simpa [updB] using h), fun h => H17.out (by simpa [updB] using h), fun h => H18.out (by simpa [updB] using h), fun h => H19.out (by simpa [updB] using h)⟩
    · rintro d a w hd hdep ⟨x4, x5, x6, x7, x8, x9, x10, x11, x12, x13, x14, x15, x16, x17, x18, x19, rfl, hb, f4, f5, f6, f7, f8, f9, f10, f11, f12, f13, f14, f15, f16, f17, f18, f19⟩
      have p2 : d 2 = true := hdep ⟨2, .guard⟩ (by simp) rfl
      have g := f7 p2; subst g
      have p3 : d 3 = true := hdep ⟨3, .data⟩ (by simp) rfl
      have g := f8 p3; subst g
      have H4 := Lib.hid f4; clear f4; have H5 := Lib.hid f5; clear f5; have H6 := Lib.hid f6; clear f6; have H9 := Lib.hid f9; clear f9; have H10 := Lib.hid f10; clear f10; have H11 := Lib.hid f11; clear f11; have H12 := Lib.hid f12; clear f12; have H13 := Lib.hid f13; clear f13; have H14 := Lib.hid f14; clear f14; have H15 := Lib.hid f15; clear f15; have H16 := Lib.hid f16; clear f16; have H17 := Lib.hid f17; clear f17; have H18 := Lib.hid f18; clear f18; have H19 := Lib.hid f19; clear f19
      clear hd hdep
      go_wp2_with (go_at_call 18; refine (valid_any k2 s2 HS2.out _ (Utf8Tabs_below HT.out hb)).mono ?_; rintro e w1 ⟨rfl, hbc⟩; rw [HV2.out])
      exact ⟨_, _, _, _, _, _, _, _, _, _, _, _, _, _, _, _, rfl, hb.trans (hbc.mono hb.size), fun h => H4.out (by simpa [updB] using h), fun h => H5.out (by simpa [updB] using h), fun h => H6.out (by simpa [updB] using h), fun _ => rfl, fun _ => rfl, fun _ => rfl, fun h => H10.out (by simpa [updB] using h), fun h => H11.out (by simpa [updB] using h), fun h => H12.out (by simpa [updB] using h), fun h => H13.out (by simpa [updB] using h), fun h => H14.out (by simpa [updB] using h), fun h => H15.out (by simpa [updB] using h), fun h => H16.out (by simpa [updB] using h), fun h => H17.out (by simpa [updB] using h), fun h => H18.out (by simpa [updB] using h), fun h => H19.out (by simpa [updB] using h)⟩
    · rintro d a w hd hdep ⟨x4, x5, x6, x7, x8, x9, x10, x11, x12, x13, x14, x15, x16, x17, x18, x19, rfl, hb, f4, f5, f6, f7, f8, f9, f10, f11, f12, f13, f14, f15, f16, f17, f18, f19⟩
      have p2 : d 2 = true := hdep ⟨2, .data⟩ (by simp) rfl
      have g := f7 p2; subst g
      have p4 : d 4 = true := hdep ⟨4, .data⟩ (by simp) rfl
      have g := f9 p4; subst g
      have H4 := Lib.hid f4; clear f4; have H5 := Lib.hid f5; clear f5; have H6 := Lib.hid f6; clear f6; have H8 := Lib.hid f8; clear f8; have H10 := Lib.hid f10; clear f10; have H11 := Lib.hid f11; clear f11; have H12 := Lib.hid f12; clear f12; have H13 := Lib.hid f13; clear f13; have H14 := Lib.hid f14; clear f14; have H15 := Lib.hid f15; clear f15; have H16 := Lib.hid f16; clear f16; have H17 := Lib.hid f17; clear f17; have H18 := Lib.hid f18; clear f18; have H19 := Lib.hid f19; clear f19
      clear hd hdep
      go_wp2
      exact ⟨_, _, _, _, _, _, _, _, _, _, _, _, _, _, _, _, rfl, hb, fun h => H4.out (by simpa [updB] using h), fun h => H5.out (by simpa [updB] using h), fun h => H6.out (by simpa [updB] using h), fun _ => rfl, fun h => H8.out (by simpa [updB] using h), fun _ => rfl, fun _ => rfl, fun h => H11.out (by simpa [updB] using h), fun h => H12.out (by simpa [updB] using h), fun h => H13.out (by simpa [updB] using h), fun h => H14.out (by simpa [updB] using h), fun h => H15.out (by simpa [updB] using h), fun h => H16.out (by simpa [updB] using h), fun h => H17.out (by simpa [updB] using h), fun h => H18.out (by simpa [updB] using h), fun h => H19.out (by simpa [updB] using h)⟩
    · rintro d a w hd hdep ⟨x4, x5, x6, x7, x8, x9, x10, x11, x12, x13, x14, x15, x16, x17, x18, x19, rfl, hb, f4, f5, f6, f7, f8, f9, f10, f11, f12, f13, f14, f15, f16, f17, f18, f19⟩
      have p5 : d 5 = true := hdep ⟨5, .data⟩ (by simp) rfl
      have g := f10 p5; subst g
      have H4 := Lib.hid f4; clear f4; have H5 := Lib.hid f5; clear f5; have H6 := Lib.hid f6; clear f6; have H7 := Lib.hid f7; clear f7; have H8 := Lib.hid f8; clear f8; have H9 := Lib.hid f9; clear f9; have H11 := Lib.hid f11; clear f11; have H12 := Lib.hid f12; clear f12; have H13 := Lib.hid f13; clear f13; have H14 := Lib.hid f14; clear f14; have H15 := Lib.hid f15; clear f15; have H16 := Lib.hid f16; clear f16; have H17 := Lib.hid f17; clear f17; have H18 := Lib.hid f18; clear f18; have H19 := Lib.hid f19; clear f19
      clear hd hdep
      go_wp2
      exact ⟨_, _, _, _, _, _, _, _, _, _, _, _, _, _, _, _, rfl, hb, fun h => H4.out (by simpa [updB] using h), fun h => H5.out (by simpa [updB] using h), fun h => H6.out (by simpa [updB] using h), fun h => H7.out (by simpa [updB] using h), fun h => H8.out (by simpa [updB] using h), fun h => H9.out (by simpa [updB] using h), fun _ => rfl, fun _ => rfl, fun h => H12.out (by simpa [updB] using h), fun h => H13.out (by simpa [updB] using h), fun h => H14.out (by simpa [updB] using h), fun h => H15.out (by simpa [updB] using h), fun h => H16.out (by simpa [updB] using h), fun h => H17.out (by simpa [updB] using h), fun h => H18.out (by simpa [updB] using h), fun h => H19.out (by simpa [updB] using h)⟩
    · rintro d a w hd hdep ⟨x4, x5, x6, x7, x8, x9, x10, x11, x12, x13, x14, x15, x16, x17, x18, x19, rfl, hb, f4, f5, f6, f7, f8, f9, f10, f11, f12, f13, f14, f15, f16, f17, f18, f19⟩
      have p6 : d 6 = true := hdep ⟨6, .guard⟩ (by simp) rfl
      have g := f11 p6; subst g
      have H4 := Lib.hid f4; clear f4; have H5 := Lib.hid f5; clear f5; have H6 := Lib.hid f6; clear f6; have H7 := Lib.hid f7; clear f7; have H8 := Lib.hid f8; clear f8; have H9 := Lib.hid f9; clear f9; have H10 := Lib.hid f10; clear f10; have H12 := Lib.hid f12; clear f12; have H13 := Lib.hid f13; clear f13; have H14 := Lib.hid f14; clear f14; have H15 := Lib.hid f15; clear f15; have H16 := Lib.hid f16; clear f16; have H17 := Lib.hid f17; clear f17; have H18 := Lib.hid f18; clear f18; have H19 := Lib.hid f19; clear f19
      clear hd hdep
      go_wp2
      exact ⟨_, _, _, _, _, _, _, _, _, _, _, _, _, _, _, _, rfl, hb, fun h => H4.out (by simpa [updB] using h), fun h => H5.out (by simpa [updB] using h), fun h => H6.out (by simpa [updB] using h), fun h => H7.out (by simpa [updB] using h), fun h => H8.out (by simpa [updB] using h), fun h => H9.out (by simpa [updB] using h), fun h => H10.out (by simpa [updB] using h), fun _ => rfl, fun _ => rfl, fun h => H13.out (by simpa [updB] using h), fun h => H14.out (by simpa [updB] using h), fun h => H15.out (by simpa [updB] using h), fun h => H16.out (by simpa [updB] using h), fun h => H17.out (by simpa [updB] using h), fun h => H18.out (by simpa [updB] using h), fun h => H19.out (by simpa [updB] using h)⟩
    · rintro d a w hd hdep ⟨x4, x5, x6, x7, x8, x9, x10, x11, x12, x13, x14, x15, x16, x17, x18, x19, rfl, hb, f4, f5, f6, f7, f8, f9, f10, f11, f12, f13, f14, f15, f16, f17, f18, f19⟩
      have p6 : d 6 = true := hdep ⟨6, .guard⟩ (by simp) rfl
      have g := f11 p6; subst g
      have p7 : d 7 = true := hdep ⟨7, .data⟩ (by simp) rfl
      have g := f12 p7; subst g
      have c10 := (hb.cell (p := ⟨B, 0, none⟩) hB1).trans h10
      have c11 := (hb.cell (p := ⟨B, 1, none⟩) hB1).trans h11
      have c20 := (hb.cell (p := ⟨B + 1, 0, none⟩) hB2).trans h20
      have c21 := (hb.cell (p := ⟨B + 1, 1, none⟩) hB2).trans h21
      have H4 := Lib.hid f4; clear f4; have H5 := Lib.hid f5; clear f5; have H6 := Lib.hid f6; clear f6; have H7 := Lib.hid f7; clear f7; have H8 := Lib.hid f8; clear f8; have H9 := Lib.hid f9; clear f9; have H10 := Lib.hid f10; clear f10; have H13 := Lib.hid f13; clear f13; have H14 := Lib.hid f14; clear f14; have H15 := Lib.hid f15; clear f15; have H16 := Lib.hid f16; clear f16; have H17 := Lib.hid f17; clear f17; have H18 := Lib.hid f18; clear f18; have H19 := Lib.hid f19; clear f19
      clear hd hdep
      go_wp2
      exact ⟨_, _, _, _, _, _, _, _, _, _, _, _, _, _, _, _, rfl, hb, fun h => H4.out (by simpa [updB] using h), fun h => H5.out (by simpa [updB] using h), fun h => H6.out (by simpa [updB] using h), fun h => H7.out (by simpa [updB] using h), fun h => H8.out (by simpa [updB] using h), fun h => H9.out (by simpa [updB] using h), fun h => H10.out (by simpa [updB] using h), fun _ => rfl, fun _ => rfl, fun _ => rfl, fun h => H14.out (by simpa [updB] using h), fun h => H15.out (by simpa [updB] using h), fun h => H16.out (by simpa [updB] using h), fun h => H17.out (by simpa [updB] using h), fun h => H18.out (by simpa [updB] using h), fun h => H19.out (by simpa [updB] using h)⟩
    · rintro d a w hd hdep ⟨x4, x5, x6, x7, x8, x9, x10, x11, x12, x13, x14, x15, x16, x17, x18, x19, rfl, hb, f4, f5, f6, f7, f8, f9, f10, f11, f12, f13, f14, f15, f16, f17, f18, f19⟩
      have p6 : d 6 = true := hdep ⟨6, .guard⟩ (by simp) rfl
      have g := f11 p6; subst g
      have p8 : d 8 = true := hdep ⟨8, .data⟩ (by simp) rfl
      have g := f13 p8; subst g
      have H4 := Lib.hid f4; clear f4; have H5 := Lib.hid f5; clear f5; have H6 := Lib.hid f6; clear f6; have H7 := Lib.hid f7; clear f7; have H8 := Lib.hid f8; clear f8; have H9 := Lib.hid f9; clear f9; have H10 := Lib.hid f10; clear f10; have H12 := Lib.hid f12; clear f12; have H14 := Lib.hid f14; clear f14; have H15 := Lib.hid f15; clear f15; have H16 := Lib.hid f16; clear f16; have H17 := Lib.hid f17; clear f17; have H18 := Lib.hid f18; clear f18; have H19 := Lib.hid f19; clear f19
      clear hd hdep
      go_wp2_with (go_at_call 22; refine (fold_any s1 HS1.out _).mono ?_; rintro e w1 ⟨rfl, hbc⟩; rw [HF1.out])
      exact ⟨_, _, _, _, _, _, _, _, _, _, _, _, _, _, _, _, rfl, hb.trans (hbc.mono hb.size), fun h => H4.out (by simpa [updB] using h), fun h => H5.out (by simpa [updB] using h), fun h => H6.out (by simpa [updB] using h), fun h => H7.out (by simpa [updB] using h), fun h => H8.out (by simpa [updB] using h), fun h => H9.out (by simpa [updB] using h), fun h => H10.out (by simpa [updB] using h), fun _ => rfl, fun h => H12.out (by simpa [updB] using h), fun _ => rfl, fun _ => rfl, fun h => H15.out (by simpa [updB] using h), fun h => H16.out (by simpa [updB] using h), fun h => H17.out (by simpa [updB] using h), fun h => H18.out (by simpa [updB] using h), fun h => H19.out (by simpa [updB] using h)⟩
    · rintro d a w hd hdep ⟨x4, x5, x6, x7, x8, x9, x10, x11, x12, x13, x14, x15, x16, x17, x18, x19, rfl, hb, f4, f5, f6, f7, f8, f9, f10, f11, f12, f13, f14, f15, f16, f17, f18, f19⟩
      have p6 : d 6 = true := hdep ⟨6, .guard⟩ (by simp) rfl
      have g := f11 p6; subst g
      have H4 := Lib.hid f4; clear f4; have H5 := Lib.hid f5; clear f5; have H6 := Lib.hid f6; clear f6; have H7 := Lib.hid f7; clear f7; have H8 := Lib.hid f8; clear f8; have H9 := Lib.hid f9; clear f9; have H10 := Lib.hid f10; clear f10; have H12 := Lib.hid f12; clear f12; have H13 := Lib.hid f13; clear f13; have H14 := Lib.hid f14; clear f14; have H15 := Lib.hid f15; clear f15; have H16 := Lib.hid f16; clear f16; have H17 := Lib.hid f17; clear f17; have H18 := Lib.hid f18; clear f18; have H19 := Lib.hid f19; clear f19
      clear hd hdep
      go_wp2
      exact ⟨_, _, _, _, _, _, _, _, _, _, _, _, _, _, _, _, rfl, hb, fun h => H4.out (by simpa [updB] using h), fun h => H5.out (by simpa [updB] using h), fun h => H6.out (by simpa [updB] using h), fun h => H7.out (by simpa [updB] using h), fun h => H8.out (by simpa [updB] using h), fun h => H9.out (by simpa [updB] using h), fun h => H10.out (by simpa [updB] using h), fun _ => rfl, fun h => H12.out (by simpa [updB] using h), fun h => H13.out (by simpa [updB] using h), fun h => H14.out (by simpa [updB] using h), fun _ => rfl, fun h => H16.out (by simpa [updB] using h), fun h => H17.out (by simpa [updB] using h), fun h => H18.out (by simpa [updB] using h), fun h => H19.out (by simpa [updB] using h)⟩
    · rintro d a w hd hdep ⟨x4, x5, x6, x7, x8, x9, x10, x11, x12, x13, x14, x15, x16, x17, x18, x19, rfl, hb, f4, f5, f6, f7, f8, f9, f10, f11, f12, f13, f14, f15, f16, f17, f18, f19⟩
      have p6 : d 6 = true := hdep ⟨6, .guard⟩ (by simp) rfl
      have g := f11 p6; subst g
      have p10 : d 10 = true := hdep ⟨10, .data⟩ (by simp) rfl
      have g := f15 p10; subst g
      have c10 := (hb.cell (p := ⟨B, 0, none⟩) hB1).trans h10
      have c11 := (hb.cell (p := ⟨B, 1, none⟩) hB1).trans h11
      have c20 := (hb.cell (p := ⟨B + 1, 0, none⟩) hB2).trans h20
      have c21 := (hb.cell (p := ⟨B + 1, 1, none⟩) hB2).trans h21
      have H4 := Lib.hid f4; clear f4; have H5 := Lib.hid f5; clear f5; have H6 := Lib.hid f6; clear f6; have H7 := Lib.hid f7; clear f7; have H8 := Lib.hid f8; clear f8; have H9 := Lib.hid f9; clear f9; have H10 := Lib.hid f10; clear f10; have H12 := Lib.hid f12; clear f12; have H13 := Lib.hid f13; clear f13; have H14 := Lib.hid f14; clear f14; have H16 := Lib.hid f16; clear f16; have H17 := Lib.hid f17; clear f17; have H18 := Lib.hid f18; clear f18; have H19 := Lib.hid f19; clear f19
      clear hd hdep
      go_wp2
      exact ⟨_, _, _, _, _, _, _, _, _, _, _, _, _, _, _, _, rfl, hb, fun h => H4.out (by simpa [updB] using h), fun h => H5.out (by simpa [updB] using h), fun h => H6.out (by simpa [updB] using h), fun h => H7.out (by simpa [updB] using h), fun h => H8.out (by simpa [updB] using h), fun h => H9.out (by simpa [updB] using h), fun h => H10.out (by simpa [updB] using h), fun _ => rfl, fun h => H12.out (by simpa [updB] using h), fun h => H13.out (by simpa [updB] using h), fun h => H14.out (by simpa [updB] using h), fun _ => rfl, fun _ => rfl, fun h => H17.out (by simpa [updB] using h), fun h => H18.out (by simpa [updB] using h), fun h => H19.out (by simpa [updB] using h)⟩
    · rintro d a w hd hdep ⟨x4, x5, x6, x7, x8, x9, x10, x11, x12, x13, x14, x15, x16, x17, x18, x19, rfl, hb, f4, f5, f6, f7, f8, f9, f10, f11, f12, f13, f14, f15, f16, f17, f18, f19⟩
      have p6 : d 6 = true := hdep ⟨6, .guard⟩ (by simp) rfl
      have g := f11 p6; subst g
      have p11 : d 11 = true := hdep ⟨11, .data⟩ (by simp) rfl
      have g := f16 p11; subst g
      have H4 := Lib.hid f4; clear f4; have H5 := Lib.hid f5; clear f5; have H6 := Lib.hid f6; clear f6; have H7 := Lib.hid f7; clear f7; have H8 := Lib.hid f8; clear f8; have H9 := Lib.hid f9; clear f9; have H10 := Lib.hid f10; clear f10; have H12 := Lib.hid f12; clear f12; have H13 := Lib.hid f13; clear f13; have H14 := Lib.hid f14; clear f14; have H15 := Lib.hid f15; clear f15; have H17 := Lib.hid f17; clear f17; have H18 := Lib.hid f18; clear f18; have H19 := Lib.hid f19; clear f19
      clear hd hdep
      go_wp2_with (go_at_call 22; refine (fold_any s2 HS2.out _).mono ?_; rintro e w1 ⟨rfl, hbc⟩; rw [HF2.out])
      exact ⟨_, _, _, _, _, _, _, _, _, _, _, _, _, _, _, _, rfl, hb.trans (hbc.mono hb.size), fun h => H4.out (by simpa [updB] using h), fun h => H5.out (by simpa [updB] using h), fun h => H6.out (by simpa [updB] using h), fun h => H7.out (by simpa [updB] using h), fun h => H8.out (by simpa [updB] using h), fun h => H9.out (by simpa [updB] using h), fun h => H10.out (by simpa [updB] using h), fun _ => rfl, fun h => H12.out (by simpa [updB] using h), fun h => H13.out (by simpa [updB] using h), fun h => H14.out (by simpa [updB] using h), fun h => H15.out (by simpa [updB] using h), fun _ => rfl, fun _ => rfl, fun h => H18.out (by simpa [updB] using h), fun h => H19.out (by simpa [updB] using h)⟩
    · rintro d a w hd hdep ⟨x4, x5, x6, x7, x8, x9, x10, x11, x12, x13, x14, x15, x16, x17, x18, x19, rfl, hb, f4, f5, f6, f7, f8, f9, f10, f11, f12, f13, f14, f15, f16, f17, f18, f19⟩
      have p6 : d 6 = true := hdep ⟨6, .guard⟩ (by simp) rfl
      have g := f11 p6; subst g
      have p9 : d 9 = true := hdep ⟨9, .data⟩ (by simp) rfl
      have g := f14 p9; subst g
      have p12 : d 12 = true := hdep ⟨12, .data⟩ (by simp) rfl
      have g := f17 p12; subst g
      have H4 := Lib.hid f4; clear f4; have H5 := Lib.hid f5; clear f5; have H6 := Lib.hid f6; clear f6; have H7 := Lib.hid f7; clear f7; have H8 := Lib.hid f8; clear f8; have H9 := Lib.hid f9; clear f9; have H10 := Lib.hid f10; clear f10; have H12 := Lib.hid f12; clear f12; have H13 := Lib.hid f13; clear f13; have H15 := Lib.hid f15; clear f15; have H16 := Lib.hid f16; clear f16; have H18 := Lib.hid f18; clear f18; have H19 := Lib.hid f19; clear f19
      clear hd hdep
      go_wp2
      exact ⟨_, _, _, _, _, _, _, _, _, _, _, _, _, _, _, _, rfl, hb, fun h => H4.out (by simpa [updB] using h), fun h => H5.out (by simpa [updB] using h), fun h => H6.out (by simpa [updB] using h), fun h => H7.out (by simpa [updB] using h), fun h => H8.out (by simpa [updB] using h), fun h => H9.out (by simpa [updB] using h), fun h => H10.out (by simpa [updB] using h), fun _ => rfl, fun h => H12.out (by simpa [updB] using h), fun h => H13.out (by simpa [updB] using h), fun _ => rfl, fun h => H15.out (by simpa [updB] using h), fun h => H16.out (by simpa [updB] using h), fun _ => rfl, fun _ => rfl, fun h => H19.out (by simpa [updB] using h)⟩
    · rintro d a w hd hdep ⟨x4, x5, x6, x7, x8, x9, x10, x11, x12, x13, x14, x15, x16, x17, x18, x19, rfl, hb, f4, f5, f6, f7, f8, f9, f10, f11, f12, f13, f14, f15, f16, f17, f18, f19⟩
      have p6 : d 6 = true := hdep ⟨6, .data⟩ (by simp) rfl
      have g := f11 p6; subst g
      have p13 : d 13 = true := hdep ⟨13, .data⟩ (by simp) rfl
      have g := f18 p13; subst g
      have H4 := Lib.hid f4; clear f4; have H5 := Lib.hid f5; clear f5; have H6 := Lib.hid f6; clear f6; have H7 := Lib.hid f7; clear f7; have H8 := Lib.hid f8; clear f8; have H9 := Lib.hid f9; clear f9; have H10 := Lib.hid f10; clear f10; have H12 := Lib.hid f12; clear f12; have H13 := Lib.hid f13; clear f13; have H14 := Lib.hid f14; clear f14; have H15 := Lib.hid f15; clear f15; have H16 := Lib.hid f16; clear f16; have H17 := Lib.hid f17; clear f17; have H19 := Lib.hid f19; clear f19
      clear hd hdep
      go_wp2
      exact ⟨_, _, _, _, _, _, _, _, _, _, _, _, _, _, _, _, rfl, hb, fun h => H4.out (by simpa [updB] using h), fun h => H5.out (by simpa [updB] using h), fun h => H6.out (by simpa [updB] using h), fun h => H7.out (by simpa [updB] using h), fun h => H8.out (by simpa [updB] using h), fun h => H9.out (by simpa [updB] using h), fun h => H10.out (by simpa [updB] using h), fun _ => rfl, fun h => H12.out (by simpa [updB] using h), fun h => H13.out (by simpa [updB] using h), fun h => H14.out (by simpa [updB] using h), fun h => H15.out (by simpa [updB] using h), fun h => H16.out (by simpa [updB] using h), fun h => H17.out (by simpa [updB] using h), fun _ => rfl, fun _ => rfl⟩
    · rintro d a w hd hdep ⟨x4, x5, x6, x7, x8, x9, x10, x11, x12, x13, x14, x15, x16, x17, x18, x19, rfl, hb, f4, f5, f6, f7, f8, f9, f10, f11, f12, f13, f14, f15, f16, f17, f18, f19⟩
      have p14 : d 14 = true := hdep ⟨14, .data⟩ (by simp) rfl
      have g := f19 p14; subst g
      have H4 := Lib.hid f4; clear f4; have H5 := Lib.hid f5; clear f5; have H6 := Lib.hid f6; clear f6; have H7 := Lib.hid f7; clear f7; have H8 := Lib.hid f8; clear f8; have H9 := Lib.hid f9; clear f9; have H10 := Lib.hid f10; clear f10; have H11 := Lib.hid f11; clear f11; have H12 := Lib.hid f12; clear f12; have H13 := Lib.hid f13; clear f13; have H14 := Lib.hid f14; clear f14; have H15 := Lib.hid f15; clear f15; have H16 := Lib.hid f16; clear f16; have H17 := Lib.hid f17; clear f17; have H18 := Lib.hid f18; clear f18
      clear hd hdep
      go_wp2
      exact ⟨_, _, _, _, _, _, _, _, _, _, _, _, _, _, _, _, rfl, hb, fun _ => rfl, fun h => H5.out (by simpa [updB] using h), fun h => H6.out (by simpa [updB] using h), fun h => H7.out (by simpa [updB] using h), fun h => H8.out (by simpa [updB] using h), fun h => H9.out (by simpa [updB] using h), fun h => H10.out (by simpa [updB] using h), fun h => H11.out (by simpa [updB] using h), fun h => H12.out (by simpa [updB] using h), fun h => H13.out (by simpa [updB] using h), fun h => H14.out (by simpa [updB] using h), fun h => H15.out (by simpa [updB] using h), fun h => H16.out (by simpa [updB] using h), fun h => H17.out (by simpa [updB] using h), fun h => H18.out (by simpa [updB] using h), fun _ => rfl⟩
  case last =>
    rintro a w2 ⟨x4, x5, x6, x7, x8, x9, x10, x11, x12, x13, x14, x15, x16, x17, x18, x19, rfl, hb, f4, f5, f6, f7, f8, f9, f10, f11, f12, f13, f14, f15, f16, f17, f18, f19⟩
    have g := f4 rfl; subst g
    have g := f5 rfl; subst g
    have g := f6 rfl; subst g
    have g := f7 rfl; subst g
    have g := f8 rfl; subst g
    have g := f9 rfl; subst g
    have g := f10 rfl; subst g
    have g := f11 rfl; subst g
    have g := f12 rfl; subst g
    have g := f13 rfl; subst g
    have g := f14 rfl; subst g
    have g := f15 rfl; subst g
    have g := f16 rfl; subst g
    have g := f17 rfl; subst g
    have g := f18 rfl; subst g
    have g := f19 rfl; subst g
    go_wp2
    go_ret
    exact ⟨by rw [← HA.out, sameS_3 HV1.out HV2.out]; rw [← HF1.out, ← HF2.out, foldI_eq, foldI_eq]; rfl, by rw [HN.out]; exact HBW.out.trans (hb.mono (by omega))⟩

theorem same_any (k1 : Int) (s1 : ByteArray) (k2 : Int) (s2 : ByteArray) (hs1 : s1.size ≤ 16777216) (hs2 : s2.size ≤ 16777216) (w : World) (hT : Lib.Utf8Tabs 0 1 w) :
    Calls Tryd.prog 9 #[.agg #[.int .i64 k1, .string s1], .agg #[.int .i64 k2, .string s2]] w fun e w' => e = .returned (.bool (sameS k1 s1.data.toList k2 s2.data.toList)) ∧ Below w.heap.size w w' := by
  rcases Bool.eq_false_or_eq_true (validS k1 s1.data.toList) with h1 | h1
  · rcases Bool.eq_false_or_eq_true (validS k2 s2.data.toList) with h2 | h2
    · exact same_2 k1 s1 k2 s2 hs1 hs2 w hT h1 h2
    · exact same_1 k1 s1 k2 s2 hs1 hs2 w hT h1 h2
  · exact same_0 k1 s1 k2 s2 hs1 hs2 w hT h1

/-- What is known of a region when a set of its operations is done. -/
def rSameJ0 (k1 k2 : Int) (s1 s2 F1 F2 : ByteArray) (B : Nat) (W0 : World) (d : Nat → Bool) (a : Act) (w : World) : Prop :=
  ∃ (x4 x5 x6 x7 x10 x11 x19 : Value), a = { tmps := #[(.agg #[.int .i64 k1, .string s1]), (.agg #[.int .i64 k2, .string s2]), (.pointer (some ⟨B, 0, none⟩)), (.pointer (some ⟨B + 1, 0, none⟩)), x4, x5, x6, x7, undef, undef, x10, x11, undef, undef, undef, undef, undef, undef, undef, x19], defers := [] } ∧ Below W0.heap.size W0 w ∧
    (d 15 = true → x4 = .bool false) ∧
    (d 0 = true → x5 = (.agg #[.int .i64 k1, .string s1])) ∧
    (d 1 = true → x6 = .bool false) ∧
    (d 2 = true → x7 = .bool false) ∧
    (d 5 = true → x10 = .bool false) ∧
    (d 6 = true → x11 = .bool false) ∧
    (d 14 = true → x19 = .bool false)

set_option maxRecDepth 100000 in
set_option maxHeartbeats 4000000 in
theorem rSame_0 (k1 : Int) (s1 : ByteArray) (k2 : Int) (s2 : ByteArray) (hs1 : s1.size ≤ 16777216) (hs2 : s2.size ≤ 16777216) (w : World) (hv1 : validS k1 s1.data.toList = false) :
    Calls Tryd.prog 10 #[.agg #[.int .i64 k1, .string s1], .agg #[.int .i64 k2, .string s2]] w fun e w' => e = .returned (.bool (sameS k1 s1.data.toList k2 s2.data.toList)) ∧ Below w.heap.size w w' := by
  obtain ⟨A, hA⟩ : ∃ A, sameS k1 s1.data.toList k2 s2.data.toList = A := ⟨_, rfl⟩
  rw [hA]
  have HA := Lib.hid hA; clear hA
  obtain ⟨F1, hF1⟩ : ∃ F1 : ByteArray, ⟨(foldR [] false s1.data.toList).toArray⟩ = F1 := ⟨_, rfl⟩
  obtain ⟨F2, hF2⟩ : ∃ F2 : ByteArray, ⟨(foldR [] false s2.data.toList).toArray⟩ = F2 := ⟨_, rfl⟩
  have HF1 := Lib.hid hF1; clear hF1
  have HF2 := Lib.hid hF2; clear hF2
  have HS1 := Lib.hid hs1; have HS2 := Lib.hid hs2; clear hs1 hs2
  have HV1 := Lib.hid hv1; clear hv1
  go_enter Tryd.func10, Tryd.ntmps10
  go_wp2
  obtain ⟨B, hn⟩ : ∃ B, w.heap.size = B := ⟨_, rfl⟩
  obtain ⟨W0, hW0⟩ : ∃ W0, (w.alloc (.cells #[.int .i64 k1, .string s1] 23)).alloc (.cells #[.int .i64 k2, .string s2] 23) = W0 := ⟨_, rfl⟩
  rw [hW0]
  have hw1 : (w.alloc (.cells #[.int .i64 k1, .string s1] 23)).heap.size = B + 1 := by rw [← hn]; simp
  have e1 : ∀ b : Below (B + 1) (w.alloc (.cells #[.int .i64 k1, .string s1] 23)) W0, W0.heap[B]? = some (.cells #[.int .i64 k1, .string s1] 23) := fun b => by
    rw [b.block B (by omega), ← hn]; exact heap_alloc_new w _
  have b1 : Below (B + 1) (w.alloc (.cells #[.int .i64 k1, .string s1] 23)) W0 := by rw [← hW0]; exact (Below.refl _ _).alloc (by omega) _
  have e2 : W0.heap[B + 1]? = some (.cells #[.int .i64 k2, .string s2] 23) := by rw [← hW0, ← hw1]; exact heap_alloc_new _ _
  have h10 : W0.cell? ⟨B, 0, none⟩ = some (.int .i64 k1) := by rw [cell_of_row _ _ 0 _ _ _ (e1 b1)]; rfl
  have h11 : W0.cell? ⟨B, 1, none⟩ = some (.string s1) := by rw [cell_of_row _ _ 1 _ _ _ (e1 b1)]; rfl
  have h20 : W0.cell? ⟨B + 1, 0, none⟩ = some (.int .i64 k2) := by rw [cell_of_row _ _ 0 _ _ _ e2]; rfl
  have h21 : W0.cell? ⟨B + 1, 1, none⟩ = some (.string s2) := by rw [cell_of_row _ _ 1 _ _ _ e2]; rfl
  have hbw : Below B w W0 := (((Below.refl B w).alloc (by omega) _).trans (b1.mono (by omega)))
  have hB2 : B + 1 < W0.heap.size := lt_of_cell h20
  have hB1 : B < W0.heap.size := by omega
  have HBW : Hid (Below B w W0) := Lib.hid hbw
  have HN := Lib.hid hn
  try rw [hw1]
  try rw [hn]
  clear e1 e2 b1 hw1 hn hW0 hbw
  refine wp_region_J (by kernel_rfl) (by kernel_rfl) (rSameJ0 k1 k2 s1 s2 F1 F2 B W0) ?first ?steps ?last
  case first =>
    exact ⟨_, _, _, _, _, _, _, rfl, (Below.refl _ _).drew, (fun h => by cases h), (fun h => by cases h), (fun h => by cases h), (fun h => by cases h), (fun h => by cases h), (fun h => by cases h), (fun h => by cases h)⟩
  case steps =>
    refine ⟨?_, ?_, ?_, ?_, ?_, ?_, ?_, ?_, ?_, ?_, ?_, ?_, ?_, ?_, ?_, ?_, trivial⟩
    · rintro d a w hd hdep ⟨x4, x5, x6, x7, x10, x11, x19, rfl, hb, f4, f5, f6, f7, f10, f11, f19⟩
      have c10 := (hb.cell (p := ⟨B, 0, none⟩) hB1).trans h10
      have c11 := (hb.cell (p := ⟨B, 1, none⟩) hB1).trans h11
      have c20 := (hb.cell (p := ⟨B + 1, 0, none⟩) hB2).trans h20
      have c21 := (hb.cell (p := ⟨B + 1, 1, none⟩) hB2).trans h21
      have H4 := Lib.hid f4; clear f4; have H5 := Lib.hid f5; clear f5; have H6 := Lib.hid f6; clear f6; have H7 := Lib.hid f7; clear f7; have H10 := Lib.hid f10; clear f10; have H11 := Lib.hid f11; clear f11; have H19 := Lib.hid f19; clear f19
      clear hd hdep
      go_wp2
      exact ⟨_, _, _, _, _, _, _, rfl, hb, fun h => H4.out (by simpa [updB] using h), fun _ => rfl, fun h => H6.out (by simpa [updB] using h), fun h => H7.out (by simpa [updB] using h), fun h => H10.out (by simpa [updB] using h), fun h => H11.out (by simpa [updB] using h), fun h => H19.out (by simpa [updB] using h)⟩
    · rintro d a w hd hdep ⟨x4, x5, x6, x7, x10, x11, x19, rfl, hb, f4, f5, f6, f7, f10, f11, f19⟩
      have p0 : d 0 = true := hdep ⟨0, .data⟩ (by simp) rfl
      have g := f5 p0; subst g
      have H4 := Lib.hid f4; clear f4; have H6 := Lib.hid f6; clear f6; have H7 := Lib.hid f7; clear f7; have H10 := Lib.hid f10; clear f10; have H11 := Lib.hid f11; clear f11; have H19 := Lib.hid f19; clear f19
      clear hd hdep
      go_wp2_with (go_at_call 11; refine (rValid_any k1 s1 HS1.out _).mono ?_; rintro e w1 ⟨rfl, hbc⟩; rw [HV1.out])
      exact ⟨_, _, _, _, _, _, _, rfl, hb.trans (hbc.mono hb.size), fun h => H4.out (by simpa [updB] using h), fun _ => rfl, fun _ => rfl, fun h => H7.out (by simpa [updB] using h), fun h => H10.out (by simpa [updB] using h), fun h => H11.out (by simpa [updB] using h), fun h => H19.out (by simpa [updB] using h)⟩
    · rintro d a w hd hdep ⟨x4, x5, x6, x7, x10, x11, x19, rfl, hb, f4, f5, f6, f7, f10, f11, f19⟩
      have p1 : d 1 = true := hdep ⟨1, .data⟩ (by simp) rfl
      have g := f6 p1; subst g
      have H4 := Lib.hid f4; clear f4; have H5 := Lib.hid f5; clear f5; have H7 := Lib.hid f7; clear f7; have H10 := Lib.hid f10; clear f10; have H11 := Lib.hid f11; clear f11; have H19 := Lib.hid f19; clear f19
      clear hd hdep
      go_wp2
      exact ⟨_, _, _, _, _, _, _, rfl, hb, fun h => H4.out (by simpa [updB] using h), fun h => H5.out (by simpa [updB] using h), fun _ => rfl, fun _ => rfl, fun h => H10.out (by simpa [updB] using h), fun h => H11.out (by simpa [updB] using h), fun h => H19.out (by simpa [updB] using h)⟩
    · rintro d a w hd hdep ⟨x4, x5, x6, x7, x10, x11, x19, rfl, hb, f4, f5, f6, f7, f10, f11, f19⟩
      have p2 : d 2 = true := hdep ⟨2, .guard⟩ (by simp) rfl
      have g := f7 p2; subst g
      have c10 := (hb.cell (p := ⟨B, 0, none⟩) hB1).trans h10
      have c11 := (hb.cell (p := ⟨B, 1, none⟩) hB1).trans h11
      have c20 := (hb.cell (p := ⟨B + 1, 0, none⟩) hB2).trans h20
      have c21 := (hb.cell (p := ⟨B + 1, 1, none⟩) hB2).trans h21
      have H4 := Lib.hid f4; clear f4; have H5 := Lib.hid f5; clear f5; have H6 := Lib.hid f6; clear f6; have H10 := Lib.hid f10; clear f10; have H11 := Lib.hid f11; clear f11; have H19 := Lib.hid f19; clear f19
      clear hd hdep
      go_wp2
      exact ⟨_, _, _, _, _, _, _, rfl, hb, fun h => H4.out (by simpa [updB] using h), fun h => H5.out (by simpa [updB] using h), fun h => H6.out (by simpa [updB] using h), fun _ => rfl, fun h => H10.out (by simpa [updB] using h), fun h => H11.out (by simpa [updB] using h), fun h => H19.out (by simpa [updB] using h)⟩
    · rintro d a w hd hdep ⟨x4, x5, x6, x7, x10, x11, x19, rfl, hb, f4, f5, f6, f7, f10, f11, f19⟩
      have p2 : d 2 = true := hdep ⟨2, .guard⟩ (by simp) rfl
      have g := f7 p2; subst g
      have H4 := Lib.hid f4; clear f4; have H5 := Lib.hid f5; clear f5; have H6 := Lib.hid f6; clear f6; have H10 := Lib.hid f10; clear f10; have H11 := Lib.hid f11; clear f11; have H19 := Lib.hid f19; clear f19
      clear hd hdep
      go_wp2
      exact ⟨_, _, _, _, _, _, _, rfl, hb, fun h => H4.out (by simpa [updB] using h), fun h => H5.out (by simpa [updB] using h), fun h => H6.out (by simpa [updB] using h), fun _ => rfl, fun h => H10.out (by simpa [updB] using h), fun h => H11.out (by simpa [updB] using h), fun h => H19.out (by simpa [updB] using h)⟩
    · rintro d a w hd hdep ⟨x4, x5, x6, x7, x10, x11, x19, rfl, hb, f4, f5, f6, f7, f10, f11, f19⟩
      have p2 : d 2 = true := hdep ⟨2, .data⟩ (by simp) rfl
      have g := f7 p2; subst g
      have H4 := Lib.hid f4; clear f4; have H5 := Lib.hid f5; clear f5; have H6 := Lib.hid f6; clear f6; have H10 := Lib.hid f10; clear f10; have H11 := Lib.hid f11; clear f11; have H19 := Lib.hid f19; clear f19
      clear hd hdep
      go_wp2
      exact ⟨_, _, _, _, _, _, _, rfl, hb, fun h => H4.out (by simpa [updB] using h), fun h => H5.out (by simpa [updB] using h), fun h => H6.out (by simpa [updB] using h), fun _ => rfl, fun _ => rfl, fun h => H11.out (by simpa [updB] using h), fun h => H19.out (by simpa [updB] using h)⟩
    · rintro d a w hd hdep ⟨x4, x5, x6, x7, x10, x11, x19, rfl, hb, f4, f5, f6, f7, f10, f11, f19⟩
      have p5 : d 5 = true := hdep ⟨5, .data⟩ (by simp) rfl
      have g := f10 p5; subst g
      have H4 := Lib.hid f4; clear f4; have H5 := Lib.hid f5; clear f5; have H6 := Lib.hid f6; clear f6; have H7 := Lib.hid f7; clear f7; have H11 := Lib.hid f11; clear f11; have H19 := Lib.hid f19; clear f19
      clear hd hdep
      go_wp2
      exact ⟨_, _, _, _, _, _, _, rfl, hb, fun h => H4.out (by simpa [updB] using h), fun h => H5.out (by simpa [updB] using h), fun h => H6.out (by simpa [updB] using h), fun h => H7.out (by simpa [updB] using h), fun _ => rfl, fun _ => rfl, fun h => H19.out (by simpa [updB] using h)⟩
    · rintro d a w hd hdep ⟨x4, x5, x6, x7, x10, x11, x19, rfl, hb, f4, f5, f6, f7, f10, f11, f19⟩
      have p6 : d 6 = true := hdep ⟨6, .guard⟩ (by simp) rfl
      have g := f11 p6; subst g
      have H4 := Lib.hid f4; clear f4; have H5 := Lib.hid f5; clear f5; have H6 := Lib.hid f6; clear f6; have H7 := Lib.hid f7; clear f7; have H10 := Lib.hid f10; clear f10; have H19 := Lib.hid f19; clear f19
      clear hd hdep
      go_wp2
      exact ⟨_, _, _, _, _, _, _, rfl, hb, fun h => H4.out (by simpa [updB] using h), fun h => H5.out (by simpa [updB] using h), fun h => H6.out (by simpa [updB] using h), fun h => H7.out (by simpa [updB] using h), fun h => H10.out (by simpa [updB] using h), fun _ => rfl, fun h => H19.out (by simpa [updB] using h)⟩
    · rintro d a w hd hdep ⟨x4, x5, x6, x7, x10, x11, x19, rfl, hb, f4, f5, f6, f7, f10, f11, f19⟩
      have p6 : d 6 = true := hdep ⟨6, .guard⟩ (by simp) rfl
      have g := f11 p6; subst g
      have c10 := (hb.cell (p := ⟨B, 0, none⟩) hB1).trans h10
      have c11 := (hb.cell (p := ⟨B, 1, none⟩) hB1).trans h11
      have c20 := (hb.cell (p := ⟨B + 1, 0, none⟩) hB2).trans h20
      have c21 := (hb.cell (p := ⟨B + 1, 1, none⟩) hB2).trans h21
      have H4 := Lib.hid f4; clear f4; have H5 := Lib.hid f5; clear f5; have H6 := Lib.hid f6; clear f6; have H7 := Lib.hid f7; clear f7; have H10 := Lib.hid f10; clear f10; have H19 := Lib.hid f19; clear f19
      clear hd hdep
      go_wp2
      exact ⟨_, _, _, _, _, _, _, rfl, hb, fun h => H4.out (by simpa [updB] using h), fun h => H5.out (by simpa [updB] using h), fun h => H6.out (by simpa [updB] using h), fun h => H7.out (by simpa [updB] using h), fun h => H10.out (by simpa [updB] using h), fun _ => rfl, fun h => H19.out (by simpa [updB] using h)⟩
    · rintro d a w hd hdep ⟨x4, x5, x6, x7, x10, x11, x19, rfl, hb, f4, f5, f6, f7, f10, f11, f19⟩
      have p6 : d 6 = true := hdep ⟨6, .guard⟩ (by simp) rfl
      have g := f11 p6; subst g
      have H4 := Lib.hid f4; clear f4; have H5 := Lib.hid f5; clear f5; have H6 := Lib.hid f6; clear f6; have H7 := Lib.hid f7; clear f7; have H10 := Lib.hid f10; clear f10; have H19 := Lib.hid f19; clear f19
      clear hd hdep
      go_wp2
      exact ⟨_, _, _, _, _, _, _, rfl, hb, fun h => H4.out (by simpa [updB] using h), fun h => H5.out (by simpa [updB] using h), fun h => H6.out (by simpa [updB] using h), fun h => H7.out (by simpa [updB] using h), fun h => H10.out (by simpa [updB] using h), fun _ => rfl, fun h => H19.out (by simpa [updB] using h)⟩
    · rintro d a w hd hdep ⟨x4, x5, x6, x7, x10, x11, x19, rfl, hb, f4, f5, f6, f7, f10, f11, f19⟩
      have p6 : d 6 = true := hdep ⟨6, .guard⟩ (by simp) rfl
      have g := f11 p6; subst g
      have H4 := Lib.hid f4; clear f4; have H5 := Lib.hid f5; clear f5; have H6 := Lib.hid f6; clear f6; have H7 := Lib.hid f7; clear f7; have H10 := Lib.hid f10; clear f10; have H19 := Lib.hid f19; clear f19
      clear hd hdep
      go_wp2
      exact ⟨_, _, _, _, _, _, _, rfl, hb, fun h => H4.out (by simpa [updB] using h), fun h => H5.out (by simpa [updB] using h), fun h => H6.out (by simpa [updB] using h), fun h => H7.out (by simpa [updB] using h), fun h => H10.out (by simpa [updB] using h), fun _ => rfl, fun h => H19.out (by simpa [updB] using h)⟩
    · rintro d a w hd hdep ⟨x4, x5, x6, x7, x10, x11, x19, rfl, hb, f4, f5, f6, f7, f10, f11, f19⟩
      have p6 : d 6 = true := hdep ⟨6, .guard⟩ (by simp) rfl
      have g := f11 p6; subst g
      have c10 := (hb.cell (p := ⟨B, 0, none⟩) hB1).trans h10
      have c11 := (hb.cell (p := ⟨B, 1, none⟩) hB1).trans h11
      have c20 := (hb.cell (p := ⟨B + 1, 0, none⟩) hB2).trans h20
      have c21 := (hb.cell (p := ⟨B + 1, 1, none⟩) hB2).trans h21
      have H4 := Lib.hid f4; clear f4; have H5 := Lib.hid f5; clear f5; have H6 := Lib.hid f6; clear f6; have H7 := Lib.hid f7; clear f7; have H10 := Lib.hid f10; clear f10; have H19 := Lib.hid f19; clear f19
      clear hd hdep
      go_wp2
      exact ⟨_, _, _, _, _, _, _, rfl, hb, fun h => H4.out (by simpa [updB] using h), fun h => H5.out (by simpa [updB] using h), fun h => H6.out (by simpa [updB] using h), fun h => H7.out (by simpa [updB] using h), fun h => H10.out (by simpa [updB] using h), fun _ => rfl, fun h => H19.out (by simpa [updB] using h)⟩
    · rintro d a w hd hdep ⟨x4, x5, x6, x7, x10, x11, x19, rfl, hb, f4, f5, f6, f7, f10, f11, f19⟩
      have p6 : d 6 = true := hdep ⟨6, .guard⟩ (by simp) rfl
      have g := f11 p6; subst g
      have H4 := Lib.hid f4; clear f4; have H5 := Lib.hid f5; clear f5; have H6 := Lib.hid f6; clear f6; have H7 := Lib.hid f7; clear f7; have H10 := Lib.hid f10; clear f10; have H19 := Lib.hid f19; clear f19
      clear hd hdep
      go_wp2
      exact ⟨_, _, _, _, _, _, _, rfl, hb, fun h => H4.out (by simpa [updB] using h), fun h => H5.out (by simpa [updB] using h), fun h => H6.out (by simpa [updB] using h), fun h => H7.out (by simpa [updB] using h), fun h => H10.out (by simpa [updB] using h), fun _ => rfl, fun h => H19.out (by simpa [updB] using h)⟩
    · rintro d a w hd hdep ⟨x4, x5, x6, x7, x10, x11, x19, rfl, hb, f4, f5, f6, f7, f10, f11, f19⟩
      have p6 : d 6 = true := hdep ⟨6, .guard⟩ (by simp) rfl
      have g := f11 p6; subst g
      have H4 := Lib.hid f4; clear f4; have H5 := Lib.hid f5; clear f5; have H6 := Lib.hid f6; clear f6; have H7 := Lib.hid f7; clear f7; have H10 := Lib.hid f10; clear f10; have H19 := Lib.hid f19; clear f19
      clear hd hdep
      go_wp2
      exact ⟨_, _, _, _, _, _, _, rfl, hb, fun h => H4.out (by simpa [updB] using h), fun h => H5.out (by simpa [updB] using h), fun h => H6.out (by simpa [updB] using h), fun h => H7.out (by simpa [updB] using h), fun h => H10.out (by simpa [updB] using h), fun _ => rfl, fun h => H19.out (by simpa [updB] using h)⟩
    · rintro d a w hd hdep ⟨x4, x5, x6, x7, x10, x11, x19, rfl, hb, f4, f5, f6, f7, f10, f11, f19⟩
      have p6 : d 6 = true := hdep ⟨6, .data⟩ (by simp) rfl
      have g := f11 p6; subst g
      have H4 := Lib.hid f4; clear f4; have H5 := Lib.hid f5; clear f5; have H6 := Lib.hid f6; clear f6; have H7 := Lib.hid f7; clear f7; have H10 := Lib.hid f10; clear f10; have H19 := Lib.hid f19; clear f19
      clear hd hdep
      go_wp2
      exact ⟨_, _, _, _, _, _, _, rfl, hb, fun h => H4.out (by simpa [updB] using h), fun h => H5.out (by simpa [updB] using h), fun h => H6.out (by simpa [updB] using h), fun h => H7.out (by simpa [updB] using h), fun h => H10.out (by simpa [updB] using h), fun _ => rfl, fun _ => rfl⟩
    · rintro d a w hd hdep ⟨x4, x5, x6, x7, x10, x11, x19, rfl, hb, f4, f5, f6, f7, f10, f11, f19⟩
      have p14 : d 14 = true := hdep ⟨14, .data⟩ (by simp) rfl
      have g := f19 p14; subst g
      have H4 := Lib.hid f4; clear f4; have H5 := Lib.hid f5; clear f5; have H6 := Lib.hid f6; clear f6; have H7 := Lib.hid f7; clear f7; have H10 := Lib.hid f10; clear f10; have H11 := Lib.hid f11; clear f11
      clear hd hdep
      go_wp2
      exact ⟨_, _, _, _, _, _, _, rfl, hb, fun _ => rfl, fun h => H5.out (by simpa [updB] using h), fun h => H6.out (by simpa [updB] using h), fun h => H7.out (by simpa [updB] using h), fun h => H10.out (by simpa [updB] using h), fun h => H11.out (by simpa [updB] using h), fun _ => rfl⟩
  case last =>
    rintro a w2 ⟨x4, x5, x6, x7, x10, x11, x19, rfl, hb, f4, f5, f6, f7, f10, f11, f19⟩
    have g := f4 rfl; subst g
    have g := f5 rfl; subst g
    have g := f6 rfl; subst g
    have g := f7 rfl; subst g
    have g := f10 rfl; subst g
    have g := f11 rfl; subst g
    have g := f19 rfl; subst g
    go_wp2
    go_ret
    exact ⟨by rw [← HA.out, sameS_1 HV1.out]; rfl, by rw [HN.out]; exact HBW.out.trans (hb.mono (by omega))⟩

/-- What is known of a region when a set of its operations is done. -/
def rSameJ1 (k1 k2 : Int) (s1 s2 F1 F2 : ByteArray) (B : Nat) (W0 : World) (d : Nat → Bool) (a : Act) (w : World) : Prop :=
  ∃ (x4 x5 x6 x7 x8 x9 x10 x11 x19 : Value), a = { tmps := #[(.agg #[.int .i64 k1, .string s1]), (.agg #[.int .i64 k2, .string s2]), (.pointer (some ⟨B, 0, none⟩)), (.pointer (some ⟨B + 1, 0, none⟩)), x4, x5, x6, x7, x8, x9, x10, x11, undef, undef, undef, undef, undef, undef, undef, x19], defers := [] } ∧ Below W0.heap.size W0 w ∧
    (d 15 = true → x4 = .bool false) ∧
    (d 0 = true → x5 = (.agg #[.int .i64 k1, .string s1])) ∧
    (d 1 = true → x6 = .bool true) ∧
    (d 2 = true → x7 = .bool true) ∧
    (d 3 = true → x8 = (.agg #[.int .i64 k2, .string s2])) ∧
    (d 4 = true → x9 = .bool false) ∧
    (d 5 = true → x10 = .bool false) ∧
    (d 6 = true → x11 = .bool false) ∧
    (d 14 = true → x19 = .bool false)

set_option maxRecDepth 100000 in
set_option maxHeartbeats 4000000 in
theorem rSame_1 (k1 : Int) (s1 : ByteArray) (k2 : Int) (s2 : ByteArray) (hs1 : s1.size ≤ 16777216) (hs2 : s2.size ≤ 16777216) (w : World) (hv1 : validS k1 s1.data.toList = true) (hv2 : validS k2 s2.data.toList = false) :
    Calls Tryd.prog 10 #[.agg #[.int .i64 k1, .string s1], .agg #[.int .i64 k2, .string s2]] w fun e w' => e = .returned (.bool (sameS k1 s1.data.toList k2 s2.data.toList)) ∧ Below w.heap.size w w' := by
  obtain ⟨A, hA⟩ : ∃ A, sameS k1 s1.data.toList k2 s2.data.toList = A := ⟨_, rfl⟩
  rw [hA]
  have HA := Lib.hid hA; clear hA
  obtain ⟨F1, hF1⟩ : ∃ F1 : ByteArray, ⟨(foldR [] false s1.data.toList).toArray⟩ = F1 := ⟨_, rfl⟩
  obtain ⟨F2, hF2⟩ : ∃ F2 : ByteArray, ⟨(foldR [] false s2.data.toList).toArray⟩ = F2 := ⟨_, rfl⟩
  have HF1 := Lib.hid hF1; clear hF1
  have HF2 := Lib.hid hF2; clear hF2
  have HS1 := Lib.hid hs1; have HS2 := Lib.hid hs2; clear hs1 hs2
  have HV1 := Lib.hid hv1; clear hv1
  have HV2 := Lib.hid hv2; clear hv2
  go_enter Tryd.func10, Tryd.ntmps10
  go_wp2
  obtain ⟨B, hn⟩ : ∃ B, w.heap.size = B := ⟨_, rfl⟩
  obtain ⟨W0, hW0⟩ : ∃ W0, (w.alloc (.cells #[.int .i64 k1, .string s1] 23)).alloc (.cells #[.int .i64 k2, .string s2] 23) = W0 := ⟨_, rfl⟩
  rw [hW0]
  have hw1 : (w.alloc (.cells #[.int .i64 k1, .string s1] 23)).heap.size = B + 1 := by rw [← hn]; simp
  have e1 : ∀ b : Below (B + 1) (w.alloc (.cells #[.int .i64 k1, .string s1] 23)) W0, W0.heap[B]? = some (.cells #[.int .i64 k1, .string s1] 23) := fun b => by
    rw [b.block B (by omega), ← hn]; exact heap_alloc_new w _
  have b1 : Below (B + 1) (w.alloc (.cells #[.int .i64 k1, .string s1] 23)) W0 := by rw [← hW0]; exact (Below.refl _ _).alloc (by omega) _
  have e2 : W0.heap[B + 1]? = some (.cells #[.int .i64 k2, .string s2] 23) := by rw [← hW0, ← hw1]; exact heap_alloc_new _ _
  have h10 : W0.cell? ⟨B, 0, none⟩ = some (.int .i64 k1) := by rw [cell_of_row _ _ 0 _ _ _ (e1 b1)]; rfl
  have h11 : W0.cell? ⟨B, 1, none⟩ = some (.string s1) := by rw [cell_of_row _ _ 1 _ _ _ (e1 b1)]; rfl
  have h20 : W0.cell? ⟨B + 1, 0, none⟩ = some (.int .i64 k2) := by rw [cell_of_row _ _ 0 _ _ _ e2]; rfl
  have h21 : W0.cell? ⟨B + 1, 1, none⟩ = some (.string s2) := by rw [cell_of_row _ _ 1 _ _ _ e2]; rfl
  have hbw : Below B w W0 := (((Below.refl B w).alloc (by omega) _).trans (b1.mono (by omega)))
  have hB2 : B + 1 < W0.heap.size := lt_of_cell h20
  have hB1 : B < W0.heap.size := by omega
  have HBW : Hid (Below B w W0) := Lib.hid hbw
  have HN := Lib.hid hn
  try rw [hw1]
  try rw [hn]
  clear e1 e2 b1 hw1 hn hW0 hbw
  refine wp_region_J (by kernel_rfl) (by kernel_rfl) (rSameJ1 k1 k2 s1 s2 F1 F2 B W0) ?first ?steps ?last
  case first =>
    exact ⟨_, _, _, _, _, _, _, _, _, rfl, (Below.refl _ _).drew, (fun h => by cases h), (fun h => by cases h), (fun h => by cases h), (fun h => by cases h), (fun h => by cases h), (fun h => by cases h), (fun h => by cases h), (fun h => by cases h), (fun h => by cases h)⟩
  case steps =>
    refine ⟨?_, ?_, ?_, ?_, ?_, ?_, ?_, ?_, ?_, ?_, ?_, ?_, ?_, ?_, ?_, ?_, trivial⟩
    · rintro d a w hd hdep ⟨x4, x5, x6, x7, x8, x9, x10, x11, x19, rfl, hb, f4, f5, f6, f7, f8, f9, f10, f11, f19⟩
      have c10 := (hb.cell (p := ⟨B, 0, none⟩) hB1).trans h10
      have c11 := (hb.cell (p := ⟨B, 1, none⟩) hB1).trans h11
      have c20 := (hb.cell (p := ⟨B + 1, 0, none⟩) hB2).trans h20
      have c21 := (hb.cell (p := ⟨B + 1, 1, none⟩) hB2).trans h21
      have H4 := Lib.hid f4; clear f4; have H5 := Lib.hid f5; clear f5; have H6 := Lib.hid f6; clear f6; have H7 := Lib.hid f7; clear f7; have H8 := Lib.hid f8; clear f8; have H9 := Lib.hid f9; clear f9; have H10 := Lib.hid f10; clear f10; have H11 := Lib.hid f11; clear f11; have H19 := Lib.hid f19; clear f19
      clear hd hdep
      go_wp2
      exact ⟨_, _, _, _, _, _, _, _, _, rfl, hb, fun h => H4.out (by simpa [updB] using h), fun _ => rfl, fun h => H6.out (by simpa [updB] using h), fun h => H7.out (by simpa [updB] using h), fun h => H8.out (by simpa [updB] using h), fun h => H9.out (by simpa [updB] using h), fun h => H10.out (by simpa [updB] using h), fun h => H11.out (by simpa [updB] using h), fun h => H19.out (by simpa [updB] using h)⟩
    · rintro d a w hd hdep ⟨x4, x5, x6, x7, x8, x9, x10, x11, x19, rfl, hb, f4, f5, f6, f7, f8, f9, f10, f11, f19⟩
      have p0 : d 0 = true := hdep ⟨0, .data⟩ (by simp) rfl
      have g := f5 p0; subst g
      have H4 := Lib.hid f4; clear f4; have H6 := Lib.hid f6; clear f6; have H7 := Lib.hid f7; clear f7; have H8 := Lib.hid f8; clear f8; have H9 := Lib.hid f9; clear f9; have H10 := Lib.hid f10; clear f10; have H11 := Lib.hid f11; clear f11; have H19 := Lib.hid f19; clear f19
      clear hd hdep
      go_wp2_with (go_at_call 11; refine (rValid_any k1 s1 HS1.out _).mono ?_; rintro e w1 ⟨rfl, hbc⟩; rw [HV1.out])
      exact ⟨_, _, _, _, _, _, _, _, _, rfl, hb.trans (hbc.mono hb.size), fun h => H4.out (by simpa [updB] using h), fun _ => rfl, fun _ => rfl, fun h => H7.out (by simpa [updB] using h), fun h => H8.out (by simpa [updB] using h), fun h => H9.out (by simpa [updB] using h), fun h => H10.out (by simpa [updB] using h), fun h => H11.out (by simpa [updB] using h), fun h => H19.out (by simpa [updB] using h)⟩
    · rintro d a w hd hdep ⟨x4, x5, x6, x7, x8, x9, x10, x11, x19, rfl, hb, f4, f5, f6, f7, f8, f9, f10, f11, f19⟩
      have p1 : d 1 = true := hdep ⟨1, .data⟩ (by simp) rfl
      have g := f6 p1; subst g
      have H4 := Lib.hid f4; clear f4; have H5 := Lib.hid f5; clear f5; have H7 := Lib.hid f7; clear f7; have H8 := Lib.hid f8; clear f8; have H9 := Lib.hid f9; clear f9; have H10 := Lib.hid f10; clear f10; have H11 := Lib.hid f11; clear f11; have H19 := Lib.hid f19; clear f19
      clear hd hdep
      go_wp2
      exact ⟨_, _, _, _, _, _, _, _, _, rfl, hb, fun h => H4.out (by simpa [updB] using h), fun h => H5.out (by simpa [updB] using h), fun _ => rfl, fun _ => rfl, fun h => H8.out (by simpa [updB] using h), fun h => H9.out (by simpa [updB] using h), fun h => H10.out (by simpa [updB] using h), fun h => H11.out (by simpa [updB] using h), fun h => H19.out (by simpa [updB] using h)⟩
    · rintro d a w hd hdep ⟨x4, x5, x6, x7, x8, x9, x10, x11, x19, rfl, hb, f4, f5, f6, f7, f8, f9, f10, f11, f19⟩
      have p2 : d 2 = true := hdep ⟨2, .guard⟩ (by simp) rfl
      have g := f7 p2; subst g
      have c10 := (hb.cell (p := ⟨B, 0, none⟩) hB1).trans h10
      have c11 := (hb.cell (p := ⟨B, 1, none⟩) hB1).trans h11
      have c20 := (hb.cell (p := ⟨B + 1, 0, none⟩) hB2).trans h20
      have c21 := (hb.cell (p := ⟨B + 1, 1, none⟩) hB2).trans h21
      have H4 := Lib.hid f4; clear f4; have H5 := Lib.hid f5; clear f5; have H6 := Lib.hid f6; clear f6; have H8 := Lib.hid f8; clear f8; have H9 := Lib.hid f9; clear f9; have H10 := Lib.hid f10; clear f10; have H11 := Lib.hid f11; clear f11; have H19 := Lib.hid f19; clear f19
      clear hd hdep
      go_wp2
      exact ⟨_, _, _, _, _, _, _, _, _, rfl, hb, fun h => H4.out (by simpa [updB] using h), fun h => H5.out (by simpa [updB] using h), fun h => H6.out (by simpa [updB] using h), fun _ => rfl, fun _ => rfl, fun h => H9.out (by simpa [updB] using h), fun h => H10.out (by simpa [updB] using h), fun h => H11.out (by simpa [updB] using h), fun h => H19.out (by simpa [updB] using h)⟩
    · rintro d a w hd hdep ⟨x4, x5, x6, x7, x8, x9, x10, x11, x19, rfl, hb, f4, f5, f6, f7, f8, f9, f10, f11, f19⟩
      have p2 : d 2 = true := hdep ⟨2, .guard⟩ (by simp) rfl
      have g := f7 p2; subst g
      have p3 : d 3 = true := hdep ⟨3, .data⟩ (by simp) rfl
      have g := f8 p3; subst g
      have H4 := Lib.hid f4; clear f4; have H5 := Lib.hid f5; clear f5; have H6 := Lib.hid f6; clear f6; have H9 := Lib.hid f9; clear f9; have H10 := Lib.hid f10; clear f10; have H11 := Lib.hid f11; clear f11; have H19 := Lib.hid f19; clear f19
      clear hd hdep
      go_wp2_with (go_at_call 11; refine (rValid_any k2 s2 HS2.out _).mono ?_; rintro e w1 ⟨rfl, hbc⟩; rw [HV2.out])
      exact ⟨_, _, _, _, _, _, _, _, _, rfl, hb.trans (hbc.mono hb.size), fun h => H4.out (by simpa [updB] using h), fun h => H5.out (by simpa [updB] using h), fun h => H6.out (by simpa [updB] using h), fun _ => rfl, fun _ => rfl, fun _ => rfl, fun h => H10.out (by simpa [updB] using h), fun h => H11.out (by simpa [updB] using h), fun h => H19.out (by simpa [updB] using h)⟩
    · rintro d a w hd hdep ⟨x4, x5, x6, x7, x8, x9, x10, x11, x19, rfl, hb, f4, f5, f6, f7, f8, f9, f10, f11, f19⟩
      have p2 : d 2 = true := hdep ⟨2, .data⟩ (by simp) rfl
      have g := f7 p2; subst g
      have p4 : d 4 = true := hdep ⟨4, .data⟩ (by simp) rfl
      have g := f9 p4; subst g
      have H4 := Lib.hid f4; clear f4; have H5 := Lib.hid f5; clear f5; have H6 := Lib.hid f6; clear f6; have H8 := Lib.hid f8; clear f8; have H10 := Lib.hid f10; clear f10; have H11 := Lib.hid f11; clear f11; have H19 := Lib.hid f19; clear f19
      clear hd hdep
      go_wp2
      exact ⟨_, _, _, _, _, _, _, _, _, rfl, hb, fun h => H4.out (by simpa [updB] using h), fun h => H5.out (by simpa [updB] using h), fun h => H6.out (by simpa [updB] using h), fun _ => rfl, fun h => H8.out (by simpa [updB] using h), fun _ => rfl, fun _ => rfl, fun h => H11.out (by simpa [updB] using h), fun h => H19.out (by simpa [updB] using h)⟩
    · rintro d a w hd hdep ⟨x4, x5, x6, x7, x8, x9, x10, x11, x19, rfl, hb, f4, f5, f6, f7, f8, f9, f10, f11, f19⟩
      have p5 : d 5 = true := hdep ⟨5, .data⟩ (by simp) rfl
      have g := f10 p5; subst g
      have H4 := Lib.hid f4; clear f4; have H5 := Lib.hid f5; clear f5; have H6 := Lib.hid f6; clear f6; have H7 := Lib.hid f7; clear f7; have H8 := Lib.hid f8; clear f8; have H9 := Lib.hid f9; clear f9; have H11 := Lib.hid f11; clear f11; have H19 := Lib.hid f19; clear f19
      clear hd hdep
      go_wp2
      exact ⟨_, _, _, _, _, _, _, _, _, rfl, hb, fun h => H4.out (by simpa [updB] using h), fun h => H5.out (by simpa [updB] using h), fun h => H6.out (by simpa [updB] using h), fun h => H7.out (by simpa [updB] using h), fun h => H8.out (by simpa [updB] using h), fun h => H9.out (by simpa [updB] using h), fun _ => rfl, fun _ => rfl, fun h => H19.out (by simpa [updB] using h)⟩
    · rintro d a w hd hdep ⟨x4, x5, x6, x7, x8, x9, x10, x11, x19, rfl, hb, f4, f5, f6, f7, f8, f9, f10, f11, f19⟩
      have p6 : d 6 = true := hdep ⟨6, .guard⟩ (by simp) rfl
      have g := f11 p6; subst g
      have H4 := Lib.hid f4; clear f4; have H5 := Lib.hid f5; clear f5; have H6 := Lib.hid f6; clear f6; have H7 := Lib.hid f7; clear f7; have H8 := Lib.hid f8; clear f8; have H9 := Lib.hid f9; clear f9; have H10 := Lib.hid f10; clear f10; have H19 := Lib.hid f19; clear f19
      clear hd hdep
      go_wp2
      exact ⟨_, _, _, _, _, _, _, _, _, rfl, hb, fun h => H4.out (by simpa [updB] using h), fun h => H5.out (by simpa [updB] using h), fun h => H6.out (by simpa [updB] using h), fun h => H7.out (by simpa [updB] using h), fun h => H8.out (by simpa [updB] using h), fun h => H9.out (by simpa [updB] using h), fun h => H10.out (by simpa [updB] using h), fun _ => rfl, fun h => H19.out (by simpa [updB] using h)⟩
    · rintro d a w hd hdep ⟨x4, x5, x6, x7, x8, x9, x10, x11, x19, rfl, hb, f4, f5, f6, f7, f8, f9, f10, f11, f19⟩
      have p6 : d 6 = true := hdep ⟨6, .guard⟩ (by simp) rfl
      have g := f11 p6; subst g
      have c10 := (hb.cell (p := ⟨B, 0, none⟩) hB1).trans h10
      have c11 := (hb.cell (p := ⟨B, 1, none⟩) hB1).trans h11
      have c20 := (hb.cell (p := ⟨B + 1, 0, none⟩) hB2).trans h20
      have c21 := (hb.cell (p := ⟨B + 1, 1, none⟩) hB2).trans h21
      have H4 := Lib.hid f4; clear f4; have H5 := Lib.hid f5; clear f5; have H6 := Lib.hid f6; clear f6; have H7 := Lib.hid f7; clear f7; have H8 := Lib.hid f8; clear f8; have H9 := Lib.hid f9; clear f9; have H10 := Lib.hid f10; clear f10; have H19 := Lib.hid f19; clear f19
      clear hd hdep
      go_wp2
      exact ⟨_, _, _, _, _, _, _, _, _, rfl, hb, fun h => H4.out (by simpa [updB] using h), fun h => H5.out (by simpa [updB] using h), fun h => H6.out (by simpa [updB] using h), fun h => H7.out (by simpa [updB] using h), fun h => H8.out (by simpa [updB] using h), fun h => H9.out (by simpa [updB] using h), fun h => H10.out (by simpa [updB] using h), fun _ => rfl, fun h => H19.out (by simpa [updB] using h)⟩
    · rintro d a w hd hdep ⟨x4, x5, x6, x7, x8, x9, x10, x11, x19, rfl, hb, f4, f5, f6, f7, f8, f9, f10, f11, f19⟩
      have p6 : d 6 = true := hdep ⟨6, .guard⟩ (by simp) rfl
      have g := f11 p6; subst g
      have H4 := Lib.hid f4; clear f4; have H5 := Lib.hid f5; clear f5; have H6 := Lib.hid f6; clear f6; have H7 := Lib.hid f7; clear f7; have H8 := Lib.hid f8; clear f8; have H9 := Lib.hid f9; clear f9; have H10 := Lib.hid f10; clear f10; have H19 := Lib.hid f19; clear f19
      clear hd hdep
      go_wp2
      exact ⟨_, _, _, _, _, _, _, _, _, rfl, hb, fun h => H4.out (by simpa [updB] using h), fun h => H5.out (by simpa [updB] using h), fun h => H6.out (by simpa [updB] using h), fun h => H7.out (by simpa [updB] using h), fun h => H8.out (by simpa [updB] using h), fun h => H9.out (by simpa [updB] using h), fun h => H10.out (by simpa [updB] using h), fun _ => rfl, fun h => H19.out (by simpa [updB] using h)⟩
    · rintro d a w hd hdep ⟨x4, x5, x6, x7, x8, x9, x10, x11, x19, rfl, hb, f4, f5, f6, f7, f8, f9, f10, f11, f19⟩
      have p6 : d 6 = true := hdep ⟨6, .guard⟩ (by simp) rfl
      have g := f11 p6; subst g
      have H4 := Lib.hid f4; clear f4; have H5 := Lib.hid f5; clear f5; have H6 := Lib.hid f6; clear f6; have H7 := Lib.hid f7; clear f7; have H8 := Lib.hid f8; clear f8; have H9 := Lib.hid f9; clear f9; have H10 := Lib.hid f10; clear f10; have H19 := Lib.hid f19; clear f19
      clear hd hdep
      go_wp2
      exact ⟨_, _, _, _, _, _, _, _, _, rfl, hb, fun h => H4.out (by simpa [updB] using h), fun h => H5.out (by simpa [updB] using h), fun h => H6.out (by simpa [updB] using h), fun h => H7.out (by simpa [updB] using h), fun h => H8.out (by simpa [updB] using h), fun h => H9.out (by simpa [updB] using h), fun h => H10.out (by simpa [updB] using h), fun _ => rfl, fun h => H19.out (by simpa [updB] using h)⟩
    · rintro d a w hd hdep ⟨x4, x5, x6, x7, x8, x9, x10, x11, x19, rfl, hb, f4, f5, f6, f7, f8, f9, f10, f11, f19⟩
      have p6 : d 6 = true := hdep ⟨6, .guard⟩ (by simp) rfl
      have g := f11 p6; subst g
      have c10 := (hb.cell (p := ⟨B, 0, none⟩) hB1).trans h10
      have c11 := (hb.cell (p := ⟨B, 1, none⟩) hB1).trans h11
      have c20 := (hb.cell (p := ⟨B + 1, 0, none⟩) hB2).trans h20
      have c21 := (hb.cell (p := ⟨B + 1, 1, none⟩) hB2).trans h21
      have H4 := Lib.hid f4; clear f4; have H5 := Lib.hid f5; clear f5; have H6 := Lib.hid f6; clear f6; have H7 := Lib.hid f7; clear f7; have H8 := Lib.hid f8; clear f8; have H9 := Lib.hid f9; clear f9; have H10 := Lib.hid f10; clear f10; have H19 := Lib.hid f19; clear f19
      clear hd hdep
      go_wp2
      exact ⟨_, _, _, _, _, _, _, _, _, rfl, hb, fun h => H4.out (by simpa [updB] using h), fun h => H5.out (by simpa [updB] using h), fun h => H6.out (by simpa [updB] using h), fun h => H7.out (by simpa [updB] using h), fun h => H8.out (by simpa [updB] using h), fun h => H9.out (by simpa [updB] using h), fun h => H10.out (by simpa [updB] using h), fun _ => rfl, fun h => H19.out (by simpa [updB] using h)⟩
    · rintro d a w hd hdep ⟨x4, x5, x6, x7, x8, x9, x10, x11, x19, rfl, hb, f4, f5, f6, f7, f8, f9, f10, f11, f19⟩
      have p6 : d 6 = true := hdep ⟨6, .guard⟩ (by simp) rfl
      have g := f11 p6; subst g
      have H4 := Lib.hid f4; clear f4; have H5 := Lib.hid f5; clear f5; have H6 := Lib.hid f6; clear f6; have H7 := Lib.hid f7; clear f7; have H8 := Lib.hid f8; clear f8; have H9 := Lib.hid f9; clear f9; have H10 := Lib.hid f10; clear f10; have H19 := Lib.hid f19; clear f19
      clear hd hdep
      go_wp2
      exact ⟨_, _, _, _, _, _, _, _, _, rfl, hb, fun h => H4.out (by simpa [updB] using h), fun h => H5.out (by simpa [updB] using h), fun h => H6.out (by simpa [updB] using h), fun h => H7.out (by simpa [updB] using h), fun h => H8.out (by simpa [updB] using h), fun h => H9.out (by simpa [updB] using h), fun h => H10.out (by simpa [updB] using h), fun _ => rfl, fun h => H19.out (by simpa [updB] using h)⟩
    · rintro d a w hd hdep ⟨x4, x5, x6, x7, x8, x9, x10, x11, x19, rfl, hb, f4, f5, f6, f7, f8, f9, f10, f11, f19⟩
      have p6 : d 6 = true := hdep ⟨6, .guard⟩ (by simp) rfl
      have g := f11 p6; subst g
      have H4 := Lib.hid f4; clear f4; have H5 := Lib.hid f5; clear f5; have H6 := Lib.hid f6; clear f6; have H7 := Lib.hid f7; clear f7; have H8 := Lib.hid f8; clear f8; have H9 := Lib.hid f9; clear f9; have H10 := Lib.hid f10; clear f10; have H19 := Lib.hid f19; clear f19
      clear hd hdep
      go_wp2
      exact ⟨_, _, _, _, _, _, _, _, _, rfl, hb, fun h => H4.out (by simpa [updB] using h), fun h => H5.out (by simpa [updB] using h), fun h => H6.out (by simpa [updB] using h), fun h => H7.out (by simpa [updB] using h), fun h => H8.out (by simpa [updB] using h), fun h => H9.out (by simpa [updB] using h), fun h => H10.out (by simpa [updB] using h), fun _ => rfl, fun h => H19.out (by simpa [updB] using h)⟩
    · rintro d a w hd hdep ⟨x4, x5, x6, x7, x8, x9, x10, x11, x19, rfl, hb, f4, f5, f6, f7, f8, f9, f10, f11, f19⟩
      have p6 : d 6 = true := hdep ⟨6, .data⟩ (by simp) rfl
      have g := f11 p6; subst g
      have H4 := Lib.hid f4; clear f4; have H5 := Lib.hid f5; clear f5; have H6 := Lib.hid f6; clear f6; have H7 := Lib.hid f7; clear f7; have H8 := Lib.hid f8; clear f8; have H9 := Lib.hid f9; clear f9; have H10 := Lib.hid f10; clear f10; have H19 := Lib.hid f19; clear f19
      clear hd hdep
      go_wp2
      exact ⟨_, _, _, _, _, _, _, _, _, rfl, hb, fun h => H4.out (by simpa [updB] using h), fun h => H5.out (by simpa [updB] using h), fun h => H6.out (by simpa [updB] using h), fun h => H7.out (by simpa [updB] using h), fun h => H8.out (by simpa [updB] using h), fun h => H9.out (by simpa [updB] using h), fun h => H10.out (by simpa [updB] using h), fun _ => rfl, fun _ => rfl⟩
    · rintro d a w hd hdep ⟨x4, x5, x6, x7, x8, x9, x10, x11, x19, rfl, hb, f4, f5, f6, f7, f8, f9, f10, f11, f19⟩
      have p14 : d 14 = true := hdep ⟨14, .data⟩ (by simp) rfl
      have g := f19 p14; subst g
      have H4 := Lib.hid f4; clear f4; have H5 := Lib.hid f5; clear f5; have H6 := Lib.hid f6; clear f6; have H7 := Lib.hid f7; clear f7; have H8 := Lib.hid f8; clear f8; have H9 := Lib.hid f9; clear f9; have H10 := Lib.hid f10; clear f10; have H11 := Lib.hid f11; clear f11
      clear hd hdep
      go_wp2
      exact ⟨_, _, _, _, _, _, _, _, _, rfl, hb, fun _ => rfl, fun h => H5.out (by simpa [updB] using h), fun h => H6.out (by simpa [updB] using h), fun h => H7.out (by simpa [updB] using h), fun h => H8.out (by simpa [updB] using h), fun h => H9.out (by simpa [updB] using h), fun h => H10.out (by simpa [updB] using h), fun h => H11.out (by simpa [updB] using h), fun _ => rfl⟩
  case last =>
    rintro a w2 ⟨x4, x5, x6, x7, x8, x9, x10, x11, x19, rfl, hb, f4, f5, f6, f7, f8, f9, f10, f11, f19⟩
    have g := f4 rfl; subst g
    have g := f5 rfl; subst g
    have g := f6 rfl; subst g
    have g := f7 rfl; subst g
    have g := f8 rfl; subst g
    have g := f9 rfl; subst g
    have g := f10 rfl; subst g
    have g := f11 rfl; subst g
    have g := f19 rfl; subst g
    go_wp2
    go_ret
    exact ⟨by rw [← HA.out, sameS_2 HV2.out]; rfl, by rw [HN.out]; exact HBW.out.trans (hb.mono (by omega))⟩

/-- What is known of a region when a set of its operations is done. -/
def rSameJ2 (k1 k2 : Int) (s1 s2 F1 F2 : ByteArray) (B : Nat) (W0 : World) (d : Nat → Bool) (a : Act) (w : World) : Prop :=
  ∃ (x4 x5 x6 x7 x8 x9 x10 x11 x12 x13 x14 x15 x16 x17 x18 x19 : Value), a = { tmps := #[(.agg #[.int .i64 k1, .string s1]), (.agg #[.int .i64 k2, .string s2]), (.pointer (some ⟨B, 0, none⟩)), (.pointer (some ⟨B + 1, 0, none⟩)), x4, x5, x6, x7, x8, x9, x10, x11, x12, x13, x14, x15, x16, x17, x18, x19], defers := [] } ∧ Below W0.heap.size W0 w ∧
    (d 15 = true → x4 = .bool (F1.toList == F2.toList)) ∧
    (d 0 = true → x5 = (.agg #[.int .i64 k1, .string s1])) ∧
    (d 1 = true → x6 = .bool true) ∧
    (d 2 = true → x7 = .bool true) ∧
    (d 3 = true → x8 = (.agg #[.int .i64 k2, .string s2])) ∧
    (d 4 = true → x9 = .bool true) ∧
    (d 5 = true → x10 = .bool true) ∧
    (d 6 = true → x11 = .bool true) ∧
    (d 7 = true → x12 = (.pointer (some ⟨B, 1, none⟩))) ∧
    (d 8 = true → x13 = (.string s1)) ∧
    (d 9 = true → x14 = (.string F1)) ∧
    (d 10 = true → x15 = (.pointer (some ⟨B + 1, 1, none⟩))) ∧
    (d 11 = true → x16 = (.string s2)) ∧
    (d 12 = true → x17 = (.string F2)) ∧
    (d 13 = true → x18 = .bool (F1.toList == F2.toList)) ∧
    (d 14 = true → x19 = .bool (F1.toList == F2.toList))

set_option maxRecDepth 100000 in
set_option maxHeartbeats 4000000 in
theorem rSame_2 (k1 : Int) (s1 : ByteArray) (k2 : Int) (s2 : ByteArray) (hs1 : s1.size ≤ 16777216) (hs2 : s2.size ≤ 16777216) (w : World) (hv1 : validS k1 s1.data.toList = true) (hv2 : validS k2 s2.data.toList = true) :
    Calls Tryd.prog 10 #[.agg #[.int .i64 k1, .string s1], .agg #[.int .i64 k2, .string s2]] w fun e w' => e = .returned (.bool (sameS k1 s1.data.toList k2 s2.data.toList)) ∧ Below w.heap.size w w' := by
  obtain ⟨A, hA⟩ : ∃ A, sameS k1 s1.data.toList k2 s2.data.toList = A := ⟨_, rfl⟩
  rw [hA]
  have HA := Lib.hid hA; clear hA
  obtain ⟨F1, hF1⟩ : ∃ F1 : ByteArray, ⟨(foldR [] false s1.data.toList).toArray⟩ = F1 := ⟨_, rfl⟩
  obtain ⟨F2, hF2⟩ : ∃ F2 : ByteArray, ⟨(foldR [] false s2.data.toList).toArray⟩ = F2 := ⟨_, rfl⟩
  have HF1 := Lib.hid hF1; clear hF1
  have HF2 := Lib.hid hF2; clear hF2
  have HS1 := Lib.hid hs1; have HS2 := Lib.hid hs2; clear hs1 hs2
  have HV1 := Lib.hid hv1; clear hv1
  have HV2 := Lib.hid hv2; clear hv2
  go_enter Tryd.func10, Tryd.ntmps10
  go_wp2
  obtain ⟨B, hn⟩ : ∃ B, w.heap.size = B := ⟨_, rfl⟩
  obtain ⟨W0, hW0⟩ : ∃ W0, (w.alloc (.cells #[.int .i64 k1, .string s1] 23)).alloc (.cells #[.int .i64 k2, .string s2] 23) = W0 := ⟨_, rfl⟩
  rw [hW0]
  have hw1 : (w.alloc (.cells #[.int .i64 k1, .string s1] 23)).heap.size = B + 1 := by rw [← hn]; simp
  have e1 : ∀ b : Below (B + 1) (w.alloc (.cells #[.int .i64 k1, .string s1] 23)) W0, W0.heap[B]? = some (.cells #[.int .i64 k1, .string s1] 23) := fun b => by
    rw [b.block B (by omega), ← hn]; exact heap_alloc_new w _
  have b1 : Below (B + 1) (w.alloc (.cells #[.int .i64 k1, .string s1] 23)) W0 := by rw [← hW0]; exact (Below.refl _ _).alloc (by omega) _
  have e2 : W0.heap[B + 1]? = some (.cells #[.int .i64 k2, .string s2] 23) := by rw [← hW0, ← hw1]; exact heap_alloc_new _ _
  have h10 : W0.cell? ⟨B, 0, none⟩ = some (.int .i64 k1) := by rw [cell_of_row _ _ 0 _ _ _ (e1 b1)]; rfl
  have h11 : W0.cell? ⟨B, 1, none⟩ = some (.string s1) := by rw [cell_of_row _ _ 1 _ _ _ (e1 b1)]; rfl
  have h20 : W0.cell? ⟨B + 1, 0, none⟩ = some (.int .i64 k2) := by rw [cell_of_row _ _ 0 _ _ _ e2]; rfl
  have h21 : W0.cell? ⟨B + 1, 1, none⟩ = some (.string s2) := by rw [cell_of_row _ _ 1 _ _ _ e2]; rfl
  have hbw : Below B w W0 := (((Below.refl B w).alloc (by omega) _).trans (b1.mono (by omega)))
  have hB2 : B + 1 < W0.heap.size := lt_of_cell h20
  have hB1 : B < W0.heap.size := by omega
  have HBW : Hid (Below B w W0) := Lib.hid hbw
  have HN := Lib.hid hn
  try rw [hw1]
  try rw [hn]
  clear e1 e2 b1 hw1 hn hW0 hbw
  refine wp_region_J (by kernel_rfl) (by kernel_rfl) (rSameJ2 k1 k2 s1 s2 F1 F2 B W0) ?first ?steps ?last
  case first =>
    exact ⟨_, _, _, _, _, _, _, _, _, _, _, _, _, _, _, _, rfl, (Below.refl _ _).drew, (fun h => by cases h), (fun h => by cases h), (fun h => by cases h), (fun h => by cases h), (fun h => by cases h), (fun h => by cases h), (fun h => by cases h), (fun h => by cases h), (fun h => by cases h), (fun h => by cases h), (fun h => by cases h), (fun h => by cases h), (fun h => by cases h), (fun h => by cases h), (fun h => by cases h), (fun h => by cases h)⟩
  case steps =>
    refine ⟨?_, ?_, ?_, ?_, ?_, ?_, ?_, ?_, ?_, ?_, ?_, ?_, ?_, ?_, ?_, ?_, trivial⟩
    · rintro d a w hd hdep ⟨x4, x5, x6, x7, x8, x9, x10, x11, x12, x13, x14, x15, x16, x17, x18, x19, rfl, hb, f4, f5, f6, f7, f8, f9, f10, f11, f12, f13, f14, f15, f16, f17, f18, f19⟩
      have c10 := (hb.cell (p := ⟨B, 0, none⟩) hB1).trans h10
      have c11 := (hb.cell (p := ⟨B, 1, none⟩) hB1).trans h11
      have c20 := (hb.cell (p := ⟨B + 1, 0, none⟩) hB2).trans h20
      have c21 := (hb.cell (p := ⟨B + 1, 1, none⟩) hB2).trans h21
      have H4 := Lib.hid f4; clear f4; have H5 := Lib.hid f5; clear f5; have H6 := Lib.hid f6; clear f6; have H7 := Lib.hid f7; clear f7; have H8 := Lib.hid f8; clear f8; have H9 := Lib.hid f9; clear f9; have H10 := Lib.hid f10; clear f10; have H11 := Lib.hid f11; clear f11; have H12 := Lib.hid f12; clear f12; have H13 := Lib.hid f13; clear f13; have H14 := Lib.hid f14; clear f14; have H15 := Lib.hid f15; clear f15; have H16 := Lib.hid f16; clear f16; have H17 := Lib.hid f17; clear f17; have H18 := Lib.hid f18; clear f18; have H19 := Lib.hid f19; clear f19
      clear hd hdep
      go_wp2
      exact ⟨_, _, _, _, _, _, _, _, _, _, _, _, _, _, _, _, rfl, hb, fun h => H4.out (by simpa [updB] using h), fun _ => rfl, fun h => H6.out (by simpa [updB] using h), fun h => H7.out (by simpa [updB] using h), fun h => H8.out (by simpa [updB] using h), fun h => H9.out (by simpa [updB] using h), fun h => H10.out (by simpa [updB] using h), fun h => H11.out (by simpa [updB] using h), fun h => H12.out (by simpa [updB] using h), fun h => H13.out (by simpa [updB] using h), fun h => H14.out (by simpa [updB] using h), fun h => H15.out (by simpa [updB] using h), fun h => H16.out (by simpa [updB] using h), fun h => H17.out (by simpa [updB] using h), fun h => H18.out (by simpa [updB] using h), fun h => H19.out (by simpa [updB] using h)⟩
    · rintro d a w hd hdep ⟨x4, x5, x6, x7, x8, x9, x10, x11, x12, x13, x14, x15, x16, x17, x18, x19, rfl, hb, f4, f5, f6, f7, f8, f9, f10, f11, f12, f13, f14, f15, f16, f17, f18, f19⟩
      have p0 : d 0 = true := hdep ⟨0, .data⟩ (by simp) rfl
      have g := f5 p0; subst g
      have H4 := Lib.hid f4; clear f4; have H6 := Lib.hid f6; clear f6; have H7 := Lib.hid f7; clear f7; have H8 := Lib.hid f8; clear f8; have H9 := Lib.hid f9; clear f9; have H10 := Lib.hid f10; clear f10; have H11 := Lib.hid f11; clear f11; have H12 := Lib.hid f12; clear f12; have H13 := Lib.hid f13; clear f13; have H14 := Lib.hid f14; clear f14; have H15 := Lib.hid f15; clear f15; have H16 := Lib.hid f16; clear f16; have H17 := Lib.hid f17; clear f17; have H18 := Lib.hid f18; clear f18; have H19 := Lib.hid f19; clear f19
      clear hd hdep
      go_wp2_with (go_at_call 11; refine (rValid_any k1 s1 HS1.out _).mono ?_; rintro e w1 ⟨rfl, hbc⟩; rw [HV1.out])
      exact ⟨_, _, _, _, _, _, _, _, _, _, _, _, _, _, _, _, rfl, hb.trans (hbc.mono hb.size), fun h => H4.out (by simpa [updB] using h), fun _ => rfl, fun _ => rfl, fun h => H7.out (by simpa [updB] using h), fun h => H8.out (by simpa [updB] using h), fun h => H9.out (by simpa [updB] using h), fun h => H10.out (by simpa [updB] using h), fun h => H11.out (by simpa [updB] using h), fun h => H12.out (by simpa [updB] using h), fun h => H13.out (by simpa [updB] using h), fun h => H14.out (by simpa [updB] using h), fun h => H15.out (by simpa [updB] using h), fun h => H16.out (by simpa [updB] using h), fun h => H17.out (by simpa [updB] using h), fun h => H18.out (by simpa [updB] using h), fun h => H19.out (by simpa [updB] using h)⟩
    · rintro d a w hd hdep ⟨x4, x5, x6, x7, x8, x9, x10, x11, x12, x13, x14, x15, x16, x17, x18, x19, rfl, hb, f4, f5, f6, f7, f8, f9, f10, f11, f12, f13, f14, f15, f16, f17, f18, f19⟩
      have p1 : d 1 = true := hdep ⟨1, .data⟩ (by simp) rfl
      have g := f6 p1; subst g
      have H4 := Lib.hid f4; clear f4; have H5 := Lib.hid f5; clear f5; have H7 := Lib.hid f7; clear f7; have H8 := Lib.hid f8; clear f8; have H9 := Lib.hid f9; clear f9; have H10 := Lib.hid f10; clear f10; have H11 := Lib.hid f11; clear f11; have H12 := Lib.hid f12; clear f12; have H13 := Lib.hid f13; clear f13; have H14 := Lib.hid f14; clear f14; have H15 := Lib.hid f15; clear f15; have H16 := Lib.hid f16; clear f16; have H17 := Lib.hid f17; clear f17; have H18 := Lib.hid f18; clear f18; have H19 := Lib.hid f19; clear f19
      clear hd hdep
      go_wp2
      exact ⟨_, _, _, _, _, _, _, _, _, _, _, _, _, _, _, _, rfl, hb, fun h => H4.out (by simpa [updB] using h), fun h => H5.out (by simpa [updB] using h), fun _ => rfl, fun _ => rfl, fun h => H8.out (by simpa [updB] using h), fun h => H9.out (by simpa [updB] using h), fun h => H10.out (by simpa [updB] using h), fun h => H11.out (by simpa [updB] using h), fun h => H12.out (by simpa [updB] using h), fun h => H13.out (by simpa [updB] using h), fun h => H14.out (by simpa [updB] using h), fun h => H15.out (by simpa [updB] using h), fun h => H16.out (by simpa [updB] using h), fun h => H17.out (by simpa [updB] using h), fun h => H18.out (by simpa [updB] using h), fun h => H19.out (by simpa [updB] using h)⟩
    · rintro d a w hd hdep ⟨x4, x5, x6, x7, x8, x9, x10, x11, x12, x13, x14, x15, x16, x17, x18, x19, rfl, hb, f4, f5, f6, f7, f8, f9, f10, f11, f12, f13, f14, f15, f16, f17, f18, f19⟩
      have p2 : d 2 = true := hdep ⟨2, .guard⟩ (by simp) rfl
      have g := f7 p2; subst g
      have c10 := (hb.cell (p := ⟨B, 0, none⟩) hB1).trans h10
      have c11 := (hb.cell (p := ⟨B, 1, none⟩) hB1).trans h11
      have c20 := (hb.cell (p := ⟨B + 1, 0, none⟩) hB2).trans h20
      have c21 := (hb.cell (p := ⟨B + 1, 1, none⟩) hB2).trans h21
      have H4 := Lib.hid f4; clear f4; have H5 := Lib.hid f5; clear f5; have H6 := Lib.hid f6; clear f6; have H8 := Lib.hid f8; clear f8; have H9 := Lib.hid f9; clear f9; have H10 := Lib.hid f10; clear f10; have H11 := Lib.hid f11; clear f11; have H12 := Lib.hid f12; clear f12; have H13 := Lib.hid f13; clear f13; have H14 := Lib.hid f14; clear f14; have H15 := Lib.hid f15; clear f15; have H16 := Lib.hid f16; clear f16; have H17 := Lib.hid f17; clear f17; have H18 := Lib.hid f18; clear f18; have H19 := Lib.hid f19; clear f19
      clear hd hdep
      go_wp2
      exact ⟨_, _, _, _, _, _, _, _, _, _, _, _, _, _, _, _, rfl, hb, fun h => H4.out (by simpa [updB] using h), fun h => H5.out (by simpa [updB] using h), fun h => H6.out (by simpa [updB] using h), fun _ => rfl, fun _ => rfl, fun h => H9.out (by simpa [updB] using h), fun h => H10.out (by simpa [updB] using h), fun h => H11.out (by simpa [updB] using h), fun h => H12.out (by simpa [updB] using h), fun h => H13.out (by simpa [updB] using h), fun h => H14.out (by simpa [updB] using h), fun h => H15.out (by simpa [updB] using h), fun h => H16.out (by simpa [updB] using h), fun h => H17.out (by simpa [updB] using h), fun h => H18.out (by simpa [updB] using h), fun h => H19.out (by simpa [updB] using h)⟩
    · rintro d a w hd hdep ⟨x4, x5, x6, x7, x8, x9, x10, x11, x12, x13, x14, x15, x16, x17, x18, x19, rfl, hb, f4, f5, f6, f7, f8, f9, f10, f11, f12, f13, f14, f15, f16, f17, f18, f19⟩
      have p2 : d 2 = true := hdep ⟨2, .guard⟩ (by simp) rfl
      have g := f7 p2; subst g
      have p3 : d 3 = true := hdep ⟨3, .data⟩ (by simp) rfl
      have g := f8 p3; subst g
      have H4 := Lib.hid f4; clear f4; have H5 := Lib.hid f5; clear f5; have H6 := Lib.hid f6; clear f6; have H9 := Lib.hid f9; clear f9; have H10 := Lib.hid f10; clear f10; have H11 := Lib.hid f11; clear f11; have H12 := Lib.hid f12; clear f12; have H13 := Lib.hid f13; clear f13; have H14 := Lib.hid f14; clear f14; have H15 := Lib.hid f15; clear f15; have H16 := Lib.hid f16; clear f16; have H17 := Lib.hid f17; clear f17; have H18 := Lib.hid f18; clear f18; have H19 := Lib.hid f19; clear f19
      clear hd hdep
      go_wp2_with (go_at_call 11; refine (rValid_any k2 s2 HS2.out _).mono ?_; rintro e w1 ⟨rfl, hbc⟩; rw [HV2.out])
      exact ⟨_, _, _, _, _, _, _, _, _, _, _, _, _, _, _, _, rfl, hb.trans (hbc.mono hb.size), fun h => H4.out (by simpa [updB] using h), fun h => H5.out (by simpa [updB] using h), fun h => H6.out (by simpa [updB] using h), fun _ => rfl, fun _ => rfl, fun _ => rfl, fun h => H10.out (by simpa [updB] using h), fun h => H11.out (by simpa [updB] using h), fun h => H12.out (by simpa [updB] using h), fun h => H13.out (by simpa [updB] using h), fun h => H14.out (by simpa [updB] using h), fun h => H15.out (by simpa [updB] using h), fun h => H16.out (by simpa [updB] using h), fun h => H17.out (by simpa [updB] using h), fun h => H18.out (by simpa [updB] using h), fun h => H19.out (by simpa [updB] using h)⟩
    · rintro d a w hd hdep ⟨x4, x5, x6, x7, x8, x9, x10, x11, x12, x13, x14, x15, x16, x17, x18, x19, rfl, hb, f4, f5, f6, f7, f8, f9, f10, f11, f12, f13, f14, f15, f16, f17, f18, f19⟩
      have p2 : d 2 = true := hdep ⟨2, .data⟩ (by simp) rfl
      have g := f7 p2; subst g
      have p4 : d 4 = true := hdep ⟨4, .data⟩ (by simp) rfl
      have g := f9 p4; subst g
      have H4 := Lib.hid f4; clear f4; have H5 := Lib.hid f5; clear f5; have H6 := Lib.hid f6; clear f6; have H8 := Lib.hid f8; clear f8; have H10 := Lib.hid f10; clear f10; have H11 := Lib.hid f11; clear f11; have H12 := Lib.hid f12; clear f12; have H13 := Lib.hid f13; clear f13; have H14 := Lib.hid f14; clear f14; have H15 := Lib.hid f15; clear f15; have H16 := Lib.hid f16; clear f16; have H17 := Lib.hid f17; clear f17; have H18 := Lib.hid f18; clear f18; have H19 := Lib.hid f19; clear f19
      clear hd hdep
      go_wp2
      exact ⟨_, _, _, _, _, _, _, _, _, _, _, _, _, _, _, _, rfl, hb, fun h => H4.out (by simpa [updB] using h), fun h => H5.out (by simpa [updB] using h), fun h => H6.out (by simpa [updB] using h), fun _ => rfl, fun h => H8.out (by simpa [updB] using h), fun _ => rfl, fun _ => rfl, fun h => H11.out (by simpa [updB] using h), fun h => H12.out (by simpa [updB] using h), fun h => H13.out (by simpa [updB] using h), fun h => H14.out (by simpa [updB] using h), fun h => H15.out (by simpa [updB] using h), fun h => H16.out (by simpa [updB] using h), fun h => H17.out (by simpa [updB] using h), fun h => H18.out (by simpa [updB] using h), fun h => H19.out (by simpa [updB] using h)⟩
    · rintro d a w hd hdep ⟨x4, x5, x6, x7, x8, x9, x10, x11, x12, x13, x14, x15, x16, x17, x18, x19, rfl, hb, f4, f5, f6, f7, f8, f9, f10, f11, f12, f13, f14, f15, f16, f17, f18, f19⟩
      have p5 : d 5 = true := hdep ⟨5, .data⟩ (by simp) rfl
      have g := f10 p5; subst g
      have H4 := Lib.hid f4; clear f4; have H5 := Lib.hid f5; clear f5; have H6 := Lib.hid f6; clear f6; have H7 := Lib.hid f7; clear f7; have H8 := Lib.hid f8; clear f8; have H9 := Lib.hid f9; clear f9; have H11 := Lib.hid f11; clear f11; have H12 := Lib.hid f12; clear f12; have H13 := Lib.hid f13; clear f13; have H14 := Lib.hid f14; clear f14; have H15 := Lib.hid f15; clear f15; have H16 := Lib.hid f16; clear f16; have H17 := Lib.hid f17; clear f17; have H18 := Lib.hid f18; clear f18; have H19 := Lib.hid f19; clear f19
      clear hd hdep
      go_wp2
      exact ⟨_, _, _, _, _, _, _, _, _, _, _, _, _, _, _, _, rfl, hb, fun h => H4.out (by simpa [updB] using h), fun h => H5.out (by simpa [updB] using h), fun h => H6.out (by simpa [updB] using h), fun h => H7.out (by simpa [updB] using h), fun h => H8.out (by simpa [updB] using h), fun h => H9.out (by simpa [updB] using h), fun _ => rfl, fun _ => rfl, fun h => H12.out (by simpa [updB] using h), fun h => H13.out (by simpa [updB] using h), fun h => H14.out (by simpa [updB] using h), fun h => H15.out (by simpa [updB] using h), fun h => H16.out (by simpa [updB] using h), fun h => H17.out (by simpa [updB] using h), fun h => H18.out (by simpa [updB] using h), fun h => H19.out (by simpa [updB] using h)⟩
    · rintro d a w hd hdep ⟨x4, x5, x6, x7, x8, x9, x10, x11, x12, x13, x14, x15, x16, x17, x18, x19, rfl, hb, f4, f5, f6, f7, f8, f9, f10, f11, f12, f13, f14, f15, f16, f17, f18, f19⟩
      have p6 : d 6 = true := hdep ⟨6, .guard⟩ (by simp) rfl
      have g := f11 p6; subst g
      have H4 := Lib.hid f4; clear f4; have H5 := Lib.hid f5; clear f5; have H6 := Lib.hid f6; clear f6; have H7 := Lib.hid f7; clear f7; have H8 := Lib.hid f8; clear f8; have H9 := Lib.hid f9; clear f9; have H10 := Lib.hid f10; clear f10; have H12 := Lib.hid f12; clear f12; have H13 := Lib.hid f13; clear f13; have H14 := Lib.hid f14; clear f14; have H15 := Lib.hid f15; clear f15; have H16 := Lib.hid f16; clear f16; have H17 := Lib.hid f17; clear f17; have H18 := Lib.hid f18; clear f18; have H19 := Lib.hid f19; clear f19
      clear hd hdep
      go_wp2
      exact ⟨_, _, _, _, _, _, _, _, _, _, _, _, _, _, _, _, rfl, hb, fun h => H4.out (by simpa [updB] using h), fun h => H5.out (by simpa [updB] using h), fun h => H6.out (by simpa [updB] using h), fun h => H7.out (by simpa [updB] using h), fun h => H8.out (by simpa [updB] using h), fun h => H9.out (by simpa [updB] using h), fun h => H10.out (by simpa [updB] using h), fun _ => rfl, fun _ => rfl, fun h => H13.out (by simpa [updB] using h), fun h => H14.out (by simpa [updB] using h), fun h => H15.out (by simpa [updB] using h), fun h => H16.out (by simpa [updB] using h), fun h => H17.out (by simpa [updB] using h), fun h => H18.out (by simpa [updB] using h), fun h => H19.out (by simpa [updB] using h)⟩
    · rintro d a w hd hdep ⟨x4, x5, x6, x7, x8, x9, x10, x11, x12, x13, x14, x15, x16, x17, x18, x19, rfl, hb, f4, f5, f6, f7, f8, f9, f10, f11, f12, f13, f14, f15, f16, f17, f18, f19⟩
      have p6 : d 6 = true := hdep ⟨6, .guard⟩ (by simp) rfl
      have g := f11 p6; subst g
      have p7 : d 7 = true := hdep ⟨7, .data⟩ (by simp) rfl
      have g := f12 p7; subst g
      have c10 := (hb.cell (p := ⟨B, 0, none⟩) hB1).trans h10
      have c11 := (hb.cell (p := ⟨B, 1, none⟩) hB1).trans h11
      have c20 := (hb.cell (p := ⟨B + 1, 0, none⟩) hB2).trans h20
      have c21 := (hb.cell (p := ⟨B + 1, 1, none⟩) hB2).trans h21
      have H4 := Lib.hid f4; clear f4; have H5 := Lib.hid f5; clear f5; have H6 := Lib.hid f6; clear f6; have H7 := Lib.hid f7; clear f7; have H8 := Lib.hid f8; clear f8; have H9 := Lib.hid f9; clear f9; have H10 := Lib.hid f10; clear f10; have H13 := Lib.hid f13; clear f13; have H14 := Lib.hid f14; clear f14; have H15 := Lib.hid f15; clear f15; have H16 := Lib.hid f16; clear f16; have H17 := Lib.hid f17; clear f17; have H18 := Lib.hid f18; clear f18; have H19 := Lib.hid f19; clear f19
      clear hd hdep
      go_wp2
      exact ⟨_, _, _, _, _, _, _, _, _, _, _, _, _, _, _, _, rfl, hb, fun h => H4.out (by simpa [updB] using h), fun h => H5.out (by simpa [updB] using h), fun h => H6.out (by simpa [updB] using h), fun h => H7.out (by simpa [updB] using h), fun h => H8.out (by simpa [updB] using h), fun h => H9.out (by simpa [updB] using h), fun h => H10.out (by simpa [updB] using h), fun _ => rfl, fun _ => rfl, fun _ => rfl, fun h => H14.out (by simpa [updB] using h), fun h => H15.out (by simpa [updB] using h), fun h => H16.out (by simpa [updB] using h), fun h => H17.out (by simpa [updB] using h), fun h => H18.out (by simpa [updB] using h), fun h => H19.out (by simpa [updB] using h)⟩
    · rintro d a w hd hdep ⟨x4, x5, x6, x7, x8, x9, x10, x11, x12, x13, x14, x15, x16, x17, x18, x19, rfl, hb, f4, f5, f6, f7, f8, f9, f10, f11, f12, f13, f14, f15, f16, f17, f18, f19⟩
      have p6 : d 6 = true := hdep ⟨6, .guard⟩ (by simp) rfl
      have g := f11 p6; subst g
      have p8 : d 8 = true := hdep ⟨8, .data⟩ (by simp) rfl
      have g := f13 p8; subst g
      have H4 := Lib.hid f4; clear f4; have H5 := Lib.hid f5; clear f5; have H6 := Lib.hid f6; clear f6; have H7 := Lib.hid f7; clear f7; have H8 := Lib.hid f8; clear f8; have H9 := Lib.hid f9; clear f9; have H10 := Lib.hid f10; clear f10; have H12 := Lib.hid f12; clear f12; have H14 := Lib.hid f14; clear f14; have H15 := Lib.hid f15; clear f15; have H16 := Lib.hid f16; clear f16; have H17 := Lib.hid f17; clear f17; have H18 := Lib.hid f18; clear f18; have H19 := Lib.hid f19; clear f19
      clear hd hdep
      go_wp2_with (go_at_call 23; refine (rFold_any s1 HS1.out _).mono ?_; rintro e w1 ⟨rfl, hbc⟩; rw [HF1.out])
      exact ⟨_, _, _, _, _, _, _, _, _, _, _, _, _, _, _, _, rfl, hb.trans (hbc.mono hb.size), fun h => H4.out (by simpa [updB] using h), fun h => H5.out (by simpa [updB] using h), fun h => H6.out (by simpa [updB] using h), fun h => H7.out (by simpa [updB] using h), fun h => H8.out (by simpa [updB] using h), fun h => H9.out (by simpa [updB] using h), fun h => H10.out (by simpa [updB] using h), fun _ => rfl, fun h => H12.out (by simpa [updB] using h), fun _ => rfl, fun _ => rfl, fun h => H15.out (by simpa [updB] using h), fun h => H16.out (by simpa [updB] using h), fun h => H17.out (by simpa [updB] using h), fun h => H18.out (by simpa [updB] using h), fun h => H19.out (by simpa [updB] using h)⟩
    · rintro d a w hd hdep ⟨x4, x5, x6, x7, x8, x9, x10, x11, x12, x13, x14, x15, x16, x17, x18, x19, rfl, hb, f4, f5, f6, f7, f8, f9, f10, f11, f12, f13, f14, f15, f16, f17, f18, f19⟩
      have p6 : d 6 = true := hdep ⟨6, .guard⟩ (by simp) rfl
      have g := f11 p6; subst g
      have H4 := Lib.hid f4; clear f4; have H5 := Lib.hid f5; clear f5; have H6 := Lib.hid f6; clear f6; have H7 := Lib.hid f7; clear f7; have H8 := Lib.hid f8; clear f8; have H9 := Lib.hid f9; clear f9; have H10 := Lib.hid f10; clear f10; have H12 := Lib.hid f12; clear f12; have H13 := Lib.hid f13; clear f13; have H14 := Lib.hid f14; clear f14; have H15 := Lib.hid f15; clear f15; have H16 := Lib.hid f16; clear f16; have H17 := Lib.hid f17; clear f17; have H18 := Lib.hid f18; clear f18; have H19 := Lib.hid f19; clear f19
      clear hd hdep
      go_wp2
      exact ⟨_, _, _, _, _, _, _, _, _, _, _, _, _, _, _, _, rfl, hb, fun h => H4.out (by simpa [updB] using h), fun h => H5.out (by simpa [updB] using h), fun h => H6.out (by simpa [updB] using h), fun h => H7.out (by simpa [updB] using h), fun h => H8.out (by simpa [updB] using h), fun h => H9.out (by simpa [updB] using h), fun h => H10.out (by simpa [updB] using h), fun _ => rfl, fun h => H12.out (by simpa [updB] using h), fun h => H13.out (by simpa [updB] using h), fun h => H14.out (by simpa [updB] using h), fun _ => rfl, fun h => H16.out (by simpa [updB] using h), fun h => H17.out (by simpa [updB] using h), fun h => H18.out (by simpa [updB] using h), fun h => H19.out (by simpa [updB] using h)⟩
    · rintro d a w hd hdep ⟨x4, x5, x6, x7, x8, x9, x10, x11, x12, x13, x14, x15, x16, x17, x18, x19, rfl, hb, f4, f5, f6, f7, f8, f9, f10, f11, f12, f13, f14, f15, f16, f17, f18, f19⟩
      have p6 : d 6 = true := hdep ⟨6, .guard⟩ (by simp) rfl
      have g := f11 p6; subst g
      have p10 : d 10 = true := hdep ⟨10, .data⟩ (by simp) rfl
      have g := f15 p10; subst g
      have c10 := (hb.cell (p := ⟨B, 0, none⟩) hB1).trans h10
      have c11 := (hb.cell (p := ⟨B, 1, none⟩) hB1).trans h11
      have c20 := (hb.cell (p := ⟨B + 1, 0, none⟩) hB2).trans h20
      have c21 := (hb.cell (p := ⟨B + 1, 1, none⟩) hB2).trans h21
      have H4 := Lib.hid f4; clear f4; have H5 := Lib.hid f5; clear f5; have H6 := Lib.hid f6; clear f6; have H7 := Lib.hid f7; clear f7; have H8 := Lib.hid f8; clear f8; have H9 := Lib.hid f9; clear f9; have H10 := Lib.hid f10; clear f10; have H12 := Lib.hid f12; clear f12; have H13 := Lib.hid f13; clear f13; have H14 := Lib.hid f14; clear f14; have H16 := Lib.hid f16; clear f16; have H17 := Lib.hid f17; clear f17; have H18 := Lib.hid f18; clear f18; have H19 := Lib.hid f19; clear f19
      clear hd hdep
      go_wp2
      exact ⟨_, _, _, _, _, _, _, _, _, _, _, _, _, _, _, _, rfl, hb, fun h => H4.out (by simpa [updB] using h), fun h => H5.out (by simpa [updB] using h), fun h => H6.out (by simpa [updB] using h), fun h => H7.out (by simpa [updB] using h), fun h => H8.out (by simpa [updB] using h), fun h => H9.out (by simpa [updB] using h), fun h => H10.out (by simpa [updB] using h), fun _ => rfl, fun h => H12.out (by simpa [updB] using h), fun h => H13.out (by simpa [updB] using h), fun h => H14.out (by simpa [updB] using h), fun _ => rfl, fun _ => rfl, fun h => H17.out (by simpa [updB] using h), fun h => H18.out (by simpa [updB] using h), fun h => H19.out (by simpa [updB] using h)⟩
    · rintro d a w hd hdep ⟨x4, x5, x6, x7, x8, x9, x10, x11, x12, x13, x14, x15, x16, x17, x18, x19, rfl, hb, f4, f5, f6, f7, f8, f9, f10, f11, f12, f13, f14, f15, f16, f17, f18, f19⟩
      have p6 : d 6 = true := hdep ⟨6, .guard⟩ (by simp) rfl
      have g := f11 p6; subst g
      have p11 : d 11 = true := hdep ⟨11, .data⟩ (by simp) rfl
      have g := f16 p11; subst g
      have H4 := Lib.hid f4; clear f4; have H5 := Lib.hid f5; clear f5; have H6 := Lib.hid f6; clear f6; have H7 := Lib.hid f7; clear f7; have H8 := Lib.hid f8; clear f8; have H9 := Lib.hid f9; clear f9; have H10 := Lib.hid f10; clear f10; have H12 := Lib.hid f12; clear f12; have H13 := Lib.hid f13; clear f13; have H14 := Lib.hid f14; clear f14; have H15 := Lib.hid f15; clear f15; have H17 := Lib.hid f17; clear f17; have H18 := Lib.hid f18; clear f18; have H19 := Lib.hid f19; clear f19
      clear hd hdep
      go_wp2_with (go_at_call 23; refine (rFold_any s2 HS2.out _).mono ?_; rintro e w1 ⟨rfl, hbc⟩; rw [HF2.out])
      exact ⟨_, _, _, _, _, _, _, _, _, _, _, _, _, _, _, _, rfl, hb.trans (hbc.mono hb.size), fun h => H4.out (by simpa [updB] using h), fun h => H5.out (by simpa [updB] using h), fun h => H6.out (by simpa [updB] using h), fun h => H7.out (by simpa [updB] using h), fun h => H8.out (by simpa [updB] using h), fun h => H9.out (by simpa [updB] using h), fun h => H10.out (by simpa [updB] using h), fun _ => rfl, fun h => H12.out (by simpa [updB] using h), fun h => H13.out (by simpa [updB] using h), fun h => H14.out (by simpa [updB] using h), fun h => H15.out (by simpa [updB] using h), fun _ => rfl, fun _ => rfl, fun h => H18.out (by simpa [updB] using h), fun h => H19.out (by simpa [updB] using h)⟩
    · rintro d a w hd hdep ⟨x4, x5, x6, x7, x8, x9, x10, x11, x12, x13, x14, x15, x16, x17, x18, x19, rfl, hb, f4, f5, f6, f7, f8, f9, f10, f11, f12, f13, f14, f15, f16, f17, f18, f19⟩
      have p6 : d 6 = true := hdep ⟨6, .guard⟩ (by simp) rfl
      have g := f11 p6; subst g
      have p9 : d 9 = true := hdep ⟨9, .data⟩ (by simp) rfl
      have g := f14 p9; subst g
      have p12 : d 12 = true := hdep ⟨12, .data⟩ (by simp) rfl
      have g := f17 p12; subst g
      have H4 := Lib.hid f4; clear f4; have H5 := Lib.hid f5; clear f5; have H6 := Lib.hid f6; clear f6; have H7 := Lib.hid f7; clear f7; have H8 := Lib.hid f8; clear f8; have H9 := Lib.hid f9; clear f9; have H10 := Lib.hid f10; clear f10; have H12 := Lib.hid f12; clear f12; have H13 := Lib.hid f13; clear f13; have H15 := Lib.hid f15; clear f15; have H16 := Lib.hid f16; clear f16; have H18 := Lib.hid f18; clear f18; have H19 := Lib.hid f19; clear f19
      clear hd hdep
      go_wp2
      exact ⟨_, _, _, _, _, _, _, _, _, _, _, _, _, _, _, _, rfl, hb, fun h => H4.out (by simpa [updB] using h), fun h => H5.out (by simpa [updB] using h), fun h => H6.out (by simpa [updB] using h), fun h => H7.out (by simpa [updB] using h), fun h => H8.out (by simpa [updB] using h), fun h => H9.out (by simpa [updB] using h), fun h => H10.out (by simpa [updB] using h), fun _ => rfl, fun h => H12.out (by simpa [updB] using h), fun h => H13.out (by simpa [updB] using h), fun _ => rfl, fun h => H15.out (by simpa [updB] using h), fun h => H16.out (by simpa [updB] using h), fun _ => rfl, fun _ => rfl, fun h => H19.out (by simpa [updB] using h)⟩
    · rintro d a w hd hdep ⟨x4, x5, x6, x7, x8, x9, x10, x11, x12, x13, x14, x15, x16, x17, x18, x19, rfl, hb, f4, f5, f6, f7, f8, f9, f10, f11, f12, f13, f14, f15, f16, f17, f18, f19⟩
      have p6 : d 6 = true := hdep ⟨6, .data⟩ (by simp) rfl
      have g := f11 p6; subst g
      have p13 : d 13 = true := hdep ⟨13, .data⟩ (by simp) rfl
      have g := f18 p13; subst g
      have H4 := Lib.hid f4; clear f4; have H5 := Lib.hid f5; clear f5; have H6 := Lib.hid f6; clear f6; have H7 := Lib.hid f7; clear f7; have H8 := Lib.hid f8; clear f8; have H9 := Lib.hid f9; clear f9; have H10 := Lib.hid f10; clear f10; have H12 := Lib.hid f12; clear f12; have H13 := Lib.hid f13; clear f13; have H14 := Lib.hid f14; clear f14; have H15 := Lib.hid f15; clear f15; have H16 := Lib.hid f16; clear f16; have H17 := Lib.hid f17; clear f17; have H19 := Lib.hid f19; clear f19
      clear hd hdep
      go_wp2
      exact ⟨_, _, _, _, _, _, _, _, _, _, _, _, _, _, _, _, rfl, hb, fun h => H4.out (by simpa [updB] using h), fun h => H5.out (by simpa [updB] using h), fun h => H6.out (by simpa [updB] using h), fun h => H7.out (by simpa [updB] using h), fun h => H8.out (by simpa [updB] using h), fun h => H9.out (by simpa [updB] using h), fun h => H10.out (by simpa [updB] using h), fun _ => rfl, fun h => H12.out (by simpa [updB] using h), fun h => H13.out (by simpa [updB] using h), fun h => H14.out (by simpa [updB] using h), fun h => H15.out (by simpa [updB] using h), fun h => H16.out (by simpa [updB] using h), fun h => H17.out (by simpa [updB] using h), fun _ => rfl, fun _ => rfl⟩
    · rintro d a w hd hdep ⟨x4, x5, x6, x7, x8, x9, x10, x11, x12, x13, x14, x15, x16, x17, x18, x19, rfl, hb, f4, f5, f6, f7, f8, f9, f10, f11, f12, f13, f14, f15, f16, f17, f18, f19⟩
      have p14 : d 14 = true := hdep ⟨14, .data⟩ (by simp) rfl
      have g := f19 p14; subst g
      have H4 := Lib.hid f4; clear f4; have H5 := Lib.hid f5; clear f5; have H6 := Lib.hid f6; clear f6; have H7 := Lib.hid f7; clear f7; have H8 := Lib.hid f8; clear f8; have H9 := Lib.hid f9; clear f9; have H10 := Lib.hid f10; clear f10; have H11 := Lib.hid f11; clear f11; have H12 := Lib.hid f12; clear f12; have H13 := Lib.hid f13; clear f13; have H14 := Lib.hid f14; clear f14; have H15 := Lib.hid f15; clear f15; have H16 := Lib.hid f16; clear f16; have H17 := Lib.hid f17; clear f17; have H18 := Lib.hid f18; clear f18
      clear hd hdep
      go_wp2
      exact ⟨_, _, _, _, _, _, _, _, _, _, _, _, _, _, _, _, rfl, hb, fun _ => rfl, fun h => H5.out (by simpa [updB] using h), fun h => H6.out (by simpa [updB] using h), fun h => H7.out (by simpa [updB] using h), fun h => H8.out (by simpa [updB] using h), fun h => H9.out (by simpa [updB] using h), fun h => H10.out (by simpa [updB] using h), fun h => H11.out (by simpa [updB] using h), fun h => H12.out (by simpa [updB] using h), fun h => H13.out (by simpa [updB] using h), fun h => H14.out (by simpa [updB] using h), fun h => H15.out (by simpa [updB] using h), fun h => H16.out (by simpa [updB] using h), fun h => H17.out (by simpa [updB] using h), fun h => H18.out (by simpa [updB] using h), fun _ => rfl⟩
  case last =>
    rintro a w2 ⟨x4, x5, x6, x7, x8, x9, x10, x11, x12, x13, x14, x15, x16, x17, x18, x19, rfl, hb, f4, f5, f6, f7, f8, f9, f10, f11, f12, f13, f14, f15, f16, f17, f18, f19⟩
    have g := f4 rfl; subst g
    have g := f5 rfl; subst g
    have g := f6 rfl; subst g
    have g := f7 rfl; subst g
    have g := f8 rfl; subst g
    have g := f9 rfl; subst g
    have g := f10 rfl; subst g
    have g := f11 rfl; subst g
    have g := f12 rfl; subst g
    have g := f13 rfl; subst g
    have g := f14 rfl; subst g
    have g := f15 rfl; subst g
    have g := f16 rfl; subst g
    have g := f17 rfl; subst g
    have g := f18 rfl; subst g
    have g := f19 rfl; subst g
    go_wp2
    go_ret
    exact ⟨by rw [← HA.out, sameS_3 HV1.out HV2.out]; rw [← HF1.out, ← HF2.out]; rfl, by rw [HN.out]; exact HBW.out.trans (hb.mono (by omega))⟩

theorem rSame_any (k1 : Int) (s1 : ByteArray) (k2 : Int) (s2 : ByteArray) (hs1 : s1.size ≤ 16777216) (hs2 : s2.size ≤ 16777216) (w : World) :
    Calls Tryd.prog 10 #[.agg #[.int .i64 k1, .string s1], .agg #[.int .i64 k2, .string s2]] w fun e w' => e = .returned (.bool (sameS k1 s1.data.toList k2 s2.data.toList)) ∧ Below w.heap.size w w' := by
  rcases Bool.eq_false_or_eq_true (validS k1 s1.data.toList) with h1 | h1
  · rcases Bool.eq_false_or_eq_true (validS k2 s2.data.toList) with h2 | h2
    · exact rSame_2 k1 s1 k2 s2 hs1 hs2 w h1 h2
    · exact rSame_1 k1 s1 k2 s2 hs1 hs2 w h1 h2
  · exact rSame_0 k1 s1 k2 s2 hs1 hs2 w h1

end Go.Proofs.YtafconpneeggiaaDoor
