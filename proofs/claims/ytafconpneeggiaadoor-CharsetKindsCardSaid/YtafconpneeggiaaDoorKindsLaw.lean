/- The walk of the law CharsetKinds: it answers true at any string and any two kinds. No condition but the tables of unicode/utf8. Printed by wip/gen/kindslaw.py. -/
import Derived.Test.YtafconpneeggiaaDoorSame
import Derived.Test.YtafconpneeggiaaDoorAwake07
import Derived.Test.YtafconpneeggiaaDoorRegR
import Derived.Test.YtafconpneeggiaaDoorLen
namespace Go.Proofs.YtafconpneeggiaaDoor
open Go.RowKit
open Go.Lib (validD decodeL)


set_option maxRecDepth 100000 in
set_option maxHeartbeats 4000000 in
theorem klLong (k1 k2 : Int) (s : ByteArray) (w : World) (hT : Lib.Utf8Tabs 0 1 w) (d : decide ((1000 : Int) < s.size) = true) :
    Calls Tryd.prog 4 #[.string s, .agg #[.int .i64 k1, .int .i64 k2]] w fun e w' => e = .returned (.bool true) ∧ Below w.heap.size w w' := by
  have HT0 := Lib.hid hT; clear hT
  go_enter Tryd.func4, Tryd.ntmps4
  go_wp2_with fail
  refine (awake_any _ (Utf8Tabs_below HT0.out ((Below.refl _ _).alloc (Nat.le_refl _) _))).mono ?_
  rintro e W0 ⟨rfl, hb⟩
  obtain ⟨hc, -⟩ := bcell hb
  have h0 : W0.cell? ⟨w.heap.size, 0, none⟩ = some (.int .i64 k1) := by rw [hc w.heap.size 0 (by first | omega | (simp; done) | (simp; omega) | (simp [go_sem]; done) | (simp [go_sem]; omega))]; simp [go_sem]
  have h1 : W0.cell? ⟨w.heap.size, 1, none⟩ = some (.int .i64 k2) := by rw [hc w.heap.size 1 (by first | omega | (simp; done) | (simp; omega) | (simp [go_sem]; done) | (simp [go_sem]; omega))]; simp [go_sem]
  have hbw : Below w.heap.size w W0 := Below.trans ((Below.refl _ _).alloc (Nat.le_refl _) _) (hb.mono (by simp))
  clear hc hb
  have HT := Lib.hid (Utf8Tabs_below HT0.out hbw)
  have HBW := Lib.hid hbw
  have hz0 := lt_of_cell h0
  clear hbw
  go_wp2_with fail
  refine (awake_any _ HT.out).mono ?_
  rintro e w2 ⟨rfl, hb⟩
  go_wp2
  go_ret
  exact ⟨rfl, HBW.out.trans (hb.mono HBW.out.size)⟩

set_option maxRecDepth 100000 in
set_option maxHeartbeats 4000000 in
theorem klA (k1 k2 : Int) (s : ByteArray) (w : World) (hT : Lib.Utf8Tabs 0 1 w)  (hs : s.size ≤ 1000) (h1 : validS k1 s.data.toList = false) :
    Calls Tryd.prog 4 #[.string s, .agg #[.int .i64 k1, .int .i64 k2]] w fun e w' => e = .returned (.bool true) ∧ Below w.heap.size w w' := by
  have HT0 := Lib.hid hT; clear hT
  have d : decide ((1000 : Int) < s.size) = false := by rw [decide_eq_false_iff_not]; omega
  have HS : Hid (s.size ≤ 16777216) := Lib.hid (by omega)
  clear hs
  have HV1 := Lib.hid h1; have HS12 : Hid (sameS k1 s.data.toList k2 s.data.toList = false) := Lib.hid (sameS_1 h1); clear h1
  go_enter Tryd.func4, Tryd.ntmps4
  go_wp2_with fail
  refine (awake_any _ (Utf8Tabs_below HT0.out ((Below.refl _ _).alloc (Nat.le_refl _) _))).mono ?_
  rintro e W0 ⟨rfl, hb⟩
  obtain ⟨hc, -⟩ := bcell hb
  have h0 : W0.cell? ⟨w.heap.size, 0, none⟩ = some (.int .i64 k1) := by rw [hc w.heap.size 0 (by first | omega | (simp; done) | (simp; omega) | (simp [go_sem]; done) | (simp [go_sem]; omega))]; simp [go_sem]
  have h1 : W0.cell? ⟨w.heap.size, 1, none⟩ = some (.int .i64 k2) := by rw [hc w.heap.size 1 (by first | omega | (simp; done) | (simp; omega) | (simp [go_sem]; done) | (simp [go_sem]; omega))]; simp [go_sem]
  have hbw : Below w.heap.size w W0 := Below.trans ((Below.refl _ _).alloc (Nat.le_refl _) _) (hb.mono (by simp))
  clear hc hb
  have HT := Lib.hid (Utf8Tabs_below HT0.out hbw)
  have HBW := Lib.hid hbw
  have hz0 := lt_of_cell h0
  clear hbw
  go_wp2_with fail
  refine (rValid_any k1 s HS.out _).mono ?_
  rintro e w1 ⟨rfl, hb⟩
  rw [HV1.out]
  have hB : Below W0.heap.size W0 w1 := Below.trans (by (repeat (first | exact (Below.refl W0.heap.size W0) | refine Below.setCell ?_ ?_ _ | refine Below.alloc ?_ ?_ _ | refine Below.drew ?_)) <;> first | omega | (simp; done) | (simp; omega)) (hb.mono (by first | omega | (simp; done) | (simp; omega) | (simp [go_sem]; done) | (simp [go_sem]; omega)))
  obtain ⟨hc, hf⟩ := bcell hb
  have a10 : w1.cell? ⟨W0.heap.size, 0, none⟩ = some (.int .i64 k1) := by rw [hc (W0.heap.size) 0 (by first | omega | (simp; done) | (simp; omega) | (simp [go_sem]; done) | (simp [go_sem]; omega))]; simp [go_sem]
  have a11 : w1.cell? ⟨W0.heap.size, 1, none⟩ = some (.string s) := by rw [hc (W0.heap.size) 1 (by first | omega | (simp; done) | (simp; omega) | (simp [go_sem]; done) | (simp [go_sem]; omega))]; simp [go_sem]
  have a20 : w1.cell? ⟨W0.heap.size + 1, 0, none⟩ = some (.int .i64 k2) := by rw [hc (W0.heap.size + 1) 0 (by first | omega | (simp; done) | (simp; omega) | (simp [go_sem]; done) | (simp [go_sem]; omega))]; simp [go_sem]
  have a21 : w1.cell? ⟨W0.heap.size + 1, 1, none⟩ = some (.string s) := by rw [hc (W0.heap.size + 1) 1 (by first | omega | (simp; done) | (simp; omega) | (simp [go_sem]; done) | (simp [go_sem]; omega))]; simp [go_sem]
  clear hc hf hb
  have hz1 := lt_of_cell a20
  have HB1 := Lib.hid hB; clear hB
  go_wp2_with fail
  refine (same_any k1 s k2 s HS.out HS.out _ (Utf8Tabs_below HT.out HB1.out)).mono ?_
  rintro e w2 ⟨rfl, hb⟩
  rw [HS12.out]
  have hB : Below W0.heap.size W0 w2 := Below.trans (by (repeat (first | exact HB1.out | refine Below.setCell ?_ ?_ _ | refine Below.alloc ?_ ?_ _ | refine Below.drew ?_)) <;> first | omega | (simp; done) | (simp; omega)) (hb.mono (by first | omega | (simp; done) | (simp; omega) | (simp [go_sem]; done) | (simp [go_sem]; omega)))
  obtain ⟨hc, hf⟩ := bcell hb
  have a10' : w2.cell? ⟨W0.heap.size, 0, none⟩ = some (.int .i64 k1) := (hc (W0.heap.size) 0 (by first | omega | (simp; done) | (simp; omega) | (simp [go_sem]; done) | (simp [go_sem]; omega))).trans a10; clear a10; have a10 := a10'; clear a10'
  have a11' : w2.cell? ⟨W0.heap.size, 1, none⟩ = some (.string s) := (hc (W0.heap.size) 1 (by first | omega | (simp; done) | (simp; omega) | (simp [go_sem]; done) | (simp [go_sem]; omega))).trans a11; clear a11; have a11 := a11'; clear a11'
  have a20' : w2.cell? ⟨W0.heap.size + 1, 0, none⟩ = some (.int .i64 k2) := (hc (W0.heap.size + 1) 0 (by first | omega | (simp; done) | (simp; omega) | (simp [go_sem]; done) | (simp [go_sem]; omega))).trans a20; clear a20; have a20 := a20'; clear a20'
  have a21' : w2.cell? ⟨W0.heap.size + 1, 1, none⟩ = some (.string s) := (hc (W0.heap.size + 1) 1 (by first | omega | (simp; done) | (simp; omega) | (simp [go_sem]; done) | (simp [go_sem]; omega))).trans a21; clear a21; have a21 := a21'; clear a21'
  clear hc hf hb
  have hz2 := lt_of_cell a20
  have HB2 := Lib.hid hB; clear hB
  go_wp2
  go_ret
  exact ⟨rfl, HBW.out.trans (HB2.out.mono HBW.out.size)⟩

set_option maxRecDepth 100000 in
set_option maxHeartbeats 4000000 in
theorem klB (k1 k2 : Int) (s : ByteArray) (w : World) (hT : Lib.Utf8Tabs 0 1 w)  (hs : s.size ≤ 1000) (h1 : validS k1 s.data.toList = true) (h2 : validS k2 s.data.toList = false) :
    Calls Tryd.prog 4 #[.string s, .agg #[.int .i64 k1, .int .i64 k2]] w fun e w' => e = .returned (.bool true) ∧ Below w.heap.size w w' := by
  have HT0 := Lib.hid hT; clear hT
  have d : decide ((1000 : Int) < s.size) = false := by rw [decide_eq_false_iff_not]; omega
  have HS : Hid (s.size ≤ 16777216) := Lib.hid (by omega)
  clear hs
  have HV1 := Lib.hid h1; have HV2 := Lib.hid h2; have HS12 : Hid (sameS k1 s.data.toList k2 s.data.toList = false) := Lib.hid (sameS_2 h2); clear h1 h2
  go_enter Tryd.func4, Tryd.ntmps4
  go_wp2_with fail
  refine (awake_any _ (Utf8Tabs_below HT0.out ((Below.refl _ _).alloc (Nat.le_refl _) _))).mono ?_
  rintro e W0 ⟨rfl, hb⟩
  obtain ⟨hc, -⟩ := bcell hb
  have h0 : W0.cell? ⟨w.heap.size, 0, none⟩ = some (.int .i64 k1) := by rw [hc w.heap.size 0 (by first | omega | (simp; done) | (simp; omega) | (simp [go_sem]; done) | (simp [go_sem]; omega))]; simp [go_sem]
  have h1 : W0.cell? ⟨w.heap.size, 1, none⟩ = some (.int .i64 k2) := by rw [hc w.heap.size 1 (by first | omega | (simp; done) | (simp; omega) | (simp [go_sem]; done) | (simp [go_sem]; omega))]; simp [go_sem]
  have hbw : Below w.heap.size w W0 := Below.trans ((Below.refl _ _).alloc (Nat.le_refl _) _) (hb.mono (by simp))
  clear hc hb
  have HT := Lib.hid (Utf8Tabs_below HT0.out hbw)
  have HBW := Lib.hid hbw
  have hz0 := lt_of_cell h0
  clear hbw
  go_wp2_with fail
  refine (rValid_any k1 s HS.out _).mono ?_
  rintro e w1 ⟨rfl, hb⟩
  rw [HV1.out]
  have hB : Below W0.heap.size W0 w1 := Below.trans (by (repeat (first | exact (Below.refl W0.heap.size W0) | refine Below.setCell ?_ ?_ _ | refine Below.alloc ?_ ?_ _ | refine Below.drew ?_)) <;> first | omega | (simp; done) | (simp; omega)) (hb.mono (by first | omega | (simp; done) | (simp; omega) | (simp [go_sem]; done) | (simp [go_sem]; omega)))
  obtain ⟨hc, hf⟩ := bcell hb
  have a10 : w1.cell? ⟨W0.heap.size, 0, none⟩ = some (.int .i64 k1) := by rw [hc (W0.heap.size) 0 (by first | omega | (simp; done) | (simp; omega) | (simp [go_sem]; done) | (simp [go_sem]; omega))]; simp [go_sem]
  have a11 : w1.cell? ⟨W0.heap.size, 1, none⟩ = some (.string s) := by rw [hc (W0.heap.size) 1 (by first | omega | (simp; done) | (simp; omega) | (simp [go_sem]; done) | (simp [go_sem]; omega))]; simp [go_sem]
  have a20 : w1.cell? ⟨W0.heap.size + 1, 0, none⟩ = some (.int .i64 k2) := by rw [hc (W0.heap.size + 1) 0 (by first | omega | (simp; done) | (simp; omega) | (simp [go_sem]; done) | (simp [go_sem]; omega))]; simp [go_sem]
  have a21 : w1.cell? ⟨W0.heap.size + 1, 1, none⟩ = some (.string s) := by rw [hc (W0.heap.size + 1) 1 (by first | omega | (simp; done) | (simp; omega) | (simp [go_sem]; done) | (simp [go_sem]; omega))]; simp [go_sem]
  clear hc hf hb
  have hz1 := lt_of_cell a20
  have HB1 := Lib.hid hB; clear hB
  go_wp2_with fail
  refine (rValid_any k2 s HS.out _).mono ?_
  rintro e w2 ⟨rfl, hb⟩
  rw [HV2.out]
  have hB : Below W0.heap.size W0 w2 := Below.trans (by (repeat (first | exact HB1.out | refine Below.setCell ?_ ?_ _ | refine Below.alloc ?_ ?_ _ | refine Below.drew ?_)) <;> first | omega | (simp; done) | (simp; omega)) (hb.mono (by first | omega | (simp; done) | (simp; omega) | (simp [go_sem]; done) | (simp [go_sem]; omega)))
  obtain ⟨hc, hf⟩ := bcell hb
  have a10' : w2.cell? ⟨W0.heap.size, 0, none⟩ = some (.int .i64 k1) := (hc (W0.heap.size) 0 (by first | omega | (simp; done) | (simp; omega) | (simp [go_sem]; done) | (simp [go_sem]; omega))).trans a10; clear a10; have a10 := a10'; clear a10'
  have a11' : w2.cell? ⟨W0.heap.size, 1, none⟩ = some (.string s) := (hc (W0.heap.size) 1 (by first | omega | (simp; done) | (simp; omega) | (simp [go_sem]; done) | (simp [go_sem]; omega))).trans a11; clear a11; have a11 := a11'; clear a11'
  have a20' : w2.cell? ⟨W0.heap.size + 1, 0, none⟩ = some (.int .i64 k2) := (hc (W0.heap.size + 1) 0 (by first | omega | (simp; done) | (simp; omega) | (simp [go_sem]; done) | (simp [go_sem]; omega))).trans a20; clear a20; have a20 := a20'; clear a20'
  have a21' : w2.cell? ⟨W0.heap.size + 1, 1, none⟩ = some (.string s) := (hc (W0.heap.size + 1) 1 (by first | omega | (simp; done) | (simp; omega) | (simp [go_sem]; done) | (simp [go_sem]; omega))).trans a21; clear a21; have a21 := a21'; clear a21'
  clear hc hf hb
  have hz2 := lt_of_cell a20
  have HB2 := Lib.hid hB; clear hB
  go_wp2_with fail
  refine (same_any k1 s k2 s HS.out HS.out _ (Utf8Tabs_below HT.out HB2.out)).mono ?_
  rintro e w3 ⟨rfl, hb⟩
  rw [HS12.out]
  have hB : Below W0.heap.size W0 w3 := Below.trans (by (repeat (first | exact HB2.out | refine Below.setCell ?_ ?_ _ | refine Below.alloc ?_ ?_ _ | refine Below.drew ?_)) <;> first | omega | (simp; done) | (simp; omega)) (hb.mono (by first | omega | (simp; done) | (simp; omega) | (simp [go_sem]; done) | (simp [go_sem]; omega)))
  obtain ⟨hc, hf⟩ := bcell hb
  have a10' : w3.cell? ⟨W0.heap.size, 0, none⟩ = some (.int .i64 k1) := (hc (W0.heap.size) 0 (by first | omega | (simp; done) | (simp; omega) | (simp [go_sem]; done) | (simp [go_sem]; omega))).trans a10; clear a10; have a10 := a10'; clear a10'
  have a11' : w3.cell? ⟨W0.heap.size, 1, none⟩ = some (.string s) := (hc (W0.heap.size) 1 (by first | omega | (simp; done) | (simp; omega) | (simp [go_sem]; done) | (simp [go_sem]; omega))).trans a11; clear a11; have a11 := a11'; clear a11'
  have a20' : w3.cell? ⟨W0.heap.size + 1, 0, none⟩ = some (.int .i64 k2) := (hc (W0.heap.size + 1) 0 (by first | omega | (simp; done) | (simp; omega) | (simp [go_sem]; done) | (simp [go_sem]; omega))).trans a20; clear a20; have a20 := a20'; clear a20'
  have a21' : w3.cell? ⟨W0.heap.size + 1, 1, none⟩ = some (.string s) := (hc (W0.heap.size + 1) 1 (by first | omega | (simp; done) | (simp; omega) | (simp [go_sem]; done) | (simp [go_sem]; omega))).trans a21; clear a21; have a21 := a21'; clear a21'
  clear hc hf hb
  have hz3 := lt_of_cell a20
  have HB3 := Lib.hid hB; clear hB
  go_wp2
  go_ret
  exact ⟨rfl, HBW.out.trans (HB3.out.mono HBW.out.size)⟩

/-- What each operation's value is known to be. -/
def klJ (k1 k2 : Int) (s : ByteArray) (L : Int) : Nat → Value → World → Prop
  | 0, v, _ => v = (.agg #[.int .i64 k1, .string s])
  | 1, v, _ => v = (.agg #[.int .i64 k2, .string s])
  | 2, v, _ => v = .bool true
  | 3, v, _ => v = .bool true
  | 4, v, _ => v = (.agg #[.int .i64 k1, .string s])
  | 5, v, _ => v = .int .i64 L
  | 6, v, _ => v = (.agg #[.int .i64 k2, .string s])
  | 7, v, _ => v = .int .i64 L
  | 8, v, _ => v = .bool true
  | 9, v, _ => v = .bool true
  | 10, v, _ => v = .bool true
  | _, _, _ => True

set_option maxRecDepth 100000 in
set_option maxHeartbeats 4000000 in
theorem klC (k1 k2 : Int) (s : ByteArray) (w : World) (hT : Lib.Utf8Tabs 0 1 w)  (hs : s.size ≤ 1000) (h1 : validS k1 s.data.toList = true) (h2 : validS k2 s.data.toList = true) :
    Calls Tryd.prog 4 #[.string s, .agg #[.int .i64 k1, .int .i64 k2]] w fun e w' => e = .returned (.bool true) ∧ Below w.heap.size w w' := by
  have HT0 := Lib.hid hT; clear hT
  have d : decide ((1000 : Int) < s.size) = false := by rw [decide_eq_false_iff_not]; omega
  have HS : Hid (s.size ≤ 16777216) := Lib.hid (by omega)
  clear hs
  have HV1 := Lib.hid h1; have HV2 := Lib.hid h2
  have HS12 : Hid (sameS k1 s.data.toList k2 s.data.toList = true) := Lib.hid (by unfold sameS; rw [h1, h2]; simp)
  obtain ⟨L, hL⟩ : ∃ L, ((rns s.data.toList).length : Int) = L := ⟨_, rfl⟩
  have HL1 : Hid (lenS k1 s.data.toList = L) := Lib.hid (by unfold lenS; rw [h1, if_pos rfl, hL])
  have HL2 : Hid (lenS k2 s.data.toList = L) := Lib.hid (by unfold lenS; rw [h2, if_pos rfl, hL])
  clear h1 h2 hL
  go_enter Tryd.func4, Tryd.ntmps4
  go_wp2_with fail
  refine (awake_any _ (Utf8Tabs_below HT0.out ((Below.refl _ _).alloc (Nat.le_refl _) _))).mono ?_
  rintro e W0 ⟨rfl, hb⟩
  obtain ⟨hc, -⟩ := bcell hb
  have h0 : W0.cell? ⟨w.heap.size, 0, none⟩ = some (.int .i64 k1) := by rw [hc w.heap.size 0 (by first | omega | (simp; done) | (simp; omega) | (simp [go_sem]; done) | (simp [go_sem]; omega))]; simp [go_sem]
  have h1 : W0.cell? ⟨w.heap.size, 1, none⟩ = some (.int .i64 k2) := by rw [hc w.heap.size 1 (by first | omega | (simp; done) | (simp; omega) | (simp [go_sem]; done) | (simp [go_sem]; omega))]; simp [go_sem]
  have hbw : Below w.heap.size w W0 := Below.trans ((Below.refl _ _).alloc (Nat.le_refl _) _) (hb.mono (by simp))
  clear hc hb
  have HT := Lib.hid (Utf8Tabs_below HT0.out hbw)
  have HBW := Lib.hid hbw
  have hz0 := lt_of_cell h0
  clear hbw
  go_wp2_with fail
  refine (rValid_any k1 s HS.out _).mono ?_
  rintro e w1 ⟨rfl, hb⟩
  rw [HV1.out]
  have hB : Below W0.heap.size W0 w1 := Below.trans (by (repeat (first | exact (Below.refl W0.heap.size W0) | refine Below.setCell ?_ ?_ _ | refine Below.alloc ?_ ?_ _ | refine Below.drew ?_)) <;> first | omega | (simp; done) | (simp; omega)) (hb.mono (by first | omega | (simp; done) | (simp; omega) | (simp [go_sem]; done) | (simp [go_sem]; omega)))
  obtain ⟨hc, hf⟩ := bcell hb
  have a10 : w1.cell? ⟨W0.heap.size, 0, none⟩ = some (.int .i64 k1) := by rw [hc (W0.heap.size) 0 (by first | omega | (simp; done) | (simp; omega) | (simp [go_sem]; done) | (simp [go_sem]; omega))]; simp [go_sem]
  have a11 : w1.cell? ⟨W0.heap.size, 1, none⟩ = some (.string s) := by rw [hc (W0.heap.size) 1 (by first | omega | (simp; done) | (simp; omega) | (simp [go_sem]; done) | (simp [go_sem]; omega))]; simp [go_sem]
  have a20 : w1.cell? ⟨W0.heap.size + 1, 0, none⟩ = some (.int .i64 k2) := by rw [hc (W0.heap.size + 1) 0 (by first | omega | (simp; done) | (simp; omega) | (simp [go_sem]; done) | (simp [go_sem]; omega))]; simp [go_sem]
  have a21 : w1.cell? ⟨W0.heap.size + 1, 1, none⟩ = some (.string s) := by rw [hc (W0.heap.size + 1) 1 (by first | omega | (simp; done) | (simp; omega) | (simp [go_sem]; done) | (simp [go_sem]; omega))]; simp [go_sem]
  clear hc hf hb
  have hz1 := lt_of_cell a20
  have HB1 := Lib.hid hB; clear hB
  go_wp2_with fail
  refine (rValid_any k2 s HS.out _).mono ?_
  rintro e w2 ⟨rfl, hb⟩
  rw [HV2.out]
  have hB : Below W0.heap.size W0 w2 := Below.trans (by (repeat (first | exact HB1.out | refine Below.setCell ?_ ?_ _ | refine Below.alloc ?_ ?_ _ | refine Below.drew ?_)) <;> first | omega | (simp; done) | (simp; omega)) (hb.mono (by first | omega | (simp; done) | (simp; omega) | (simp [go_sem]; done) | (simp [go_sem]; omega)))
  obtain ⟨hc, hf⟩ := bcell hb
  have a10' : w2.cell? ⟨W0.heap.size, 0, none⟩ = some (.int .i64 k1) := (hc (W0.heap.size) 0 (by first | omega | (simp; done) | (simp; omega) | (simp [go_sem]; done) | (simp [go_sem]; omega))).trans a10; clear a10; have a10 := a10'; clear a10'
  have a11' : w2.cell? ⟨W0.heap.size, 1, none⟩ = some (.string s) := (hc (W0.heap.size) 1 (by first | omega | (simp; done) | (simp; omega) | (simp [go_sem]; done) | (simp [go_sem]; omega))).trans a11; clear a11; have a11 := a11'; clear a11'
  have a20' : w2.cell? ⟨W0.heap.size + 1, 0, none⟩ = some (.int .i64 k2) := (hc (W0.heap.size + 1) 0 (by first | omega | (simp; done) | (simp; omega) | (simp [go_sem]; done) | (simp [go_sem]; omega))).trans a20; clear a20; have a20 := a20'; clear a20'
  have a21' : w2.cell? ⟨W0.heap.size + 1, 1, none⟩ = some (.string s) := (hc (W0.heap.size + 1) 1 (by first | omega | (simp; done) | (simp; omega) | (simp [go_sem]; done) | (simp [go_sem]; omega))).trans a21; clear a21; have a21 := a21'; clear a21'
  clear hc hf hb
  have hz2 := lt_of_cell a20
  have HB2 := Lib.hid hB; clear hB
  go_wp2
  obtain ⟨W2, rfl⟩ : ∃ W2 : World, W2 = w2 := ⟨_, rfl⟩
  obtain ⟨B, hB⟩ : ∃ B, W0.heap.size = B := ⟨_, rfl⟩
  rw [hB] at a10 a11 a20 a21 ⊢
  have HBn := Lib.hid hB; clear hB
  have hB1 : B < W2.heap.size := lt_of_cell a10
  have hB2 : B + 1 < W2.heap.size := lt_of_cell a20
  have HT2 := Lib.hid (Utf8Tabs_below HT.out HB2.out)
  refine wp_region_R (by kernel_rfl) (by kernel_rfl) (fun x => #[x 0, x 1, x 2, x 3, x 4, (.pointer (some ⟨B, 0, none⟩)), (.pointer (some ⟨B + 1, 0, none⟩)), x 7, x 8, x 9, x 10, x 11, x 12, x 13, x 14, x 15, x 16, x 17, x 18, x 19, x 20, x 21, x 22, x 23, x 24, x 25, x 26, x 27, x 28, x 29, x 30, x 31, x 32, x 33, x 34, x 35, x 36, x 37, x 38, x 39, x 40, x 41, x 42, x 43, x 44]) [35, 36, 37, 38, 39, 40, 41, 42, 43, 44, 4] (klJ k1 k2 s L) W2 (by decide) (by rfl) (fun k v w w' _ h => by unfold klJ at *; split at h <;> exact h) (by rfl) (Below.refl _ _) ?steps ?last
  case steps =>
    refine ⟨?_, ?_, ?_, ?_, ?_, ?_, ?_, ?_, ?_, ?_, ?_, trivial⟩
    · intro x w hb hdep
      have c10 := (hb.cell (p := ⟨B, 0, none⟩) hB1).trans a10; have c11 := (hb.cell (p := ⟨B, 1, none⟩) hB1).trans a11
      clear hdep
      go_wp2
      exact ⟨(.agg #[.int .i64 k1, .string s]), (by simp only [updV] <;> rfl), rfl, Below.refl _ _⟩
    · intro x w hb hdep
      have c20 := (hb.cell (p := ⟨B + 1, 0, none⟩) hB2).trans a20; have c21 := (hb.cell (p := ⟨B + 1, 1, none⟩) hB2).trans a21
      clear hdep
      go_wp2
      exact ⟨(.agg #[.int .i64 k2, .string s]), (by simp only [updV] <;> rfl), rfl, Below.refl _ _⟩
    · intro x w hb hdep
      have g0 : x 35 = (.agg #[.int .i64 k1, .string s]) := hdep ⟨0, .data⟩ (by simp) rfl
      have g1 : x 36 = (.agg #[.int .i64 k2, .string s]) := hdep ⟨1, .data⟩ (by simp) rfl
      clear hdep
      go_wp2_with (go_at_call 9; refine (same_any k1 s k2 s HS.out HS.out _ (Utf8Tabs_below HT2.out hb)).mono ?_; rintro e w1 ⟨rfl, hbc⟩; rw [HS12.out])
      exact ⟨.bool true, (by simp only [updV, g0, g1] <;> rfl), rfl, hbc⟩
    · intro x w hb hdep
      have g2 : x 37 = .bool true := hdep ⟨2, .data⟩ (by simp) rfl
      clear hdep
      go_wp2
      exact ⟨.bool true, (by simp only [updV, g2] <;> rfl), rfl, Below.refl _ _⟩
    · intro x w hb hdep
      have g3 : x 38 = .bool true := hdep ⟨3, .guard⟩ (by simp) rfl
      have c10 := (hb.cell (p := ⟨B, 0, none⟩) hB1).trans a10; have c11 := (hb.cell (p := ⟨B, 1, none⟩) hB1).trans a11
      clear hdep
      go_wp2
      exact ⟨(.agg #[.int .i64 k1, .string s]), (by simp only [updV, g3] <;> rfl), rfl, Below.refl _ _⟩
    · intro x w hb hdep
      have g4 : x 39 = (.agg #[.int .i64 k1, .string s]) := hdep ⟨4, .data⟩ (by simp) rfl
      have g3 : x 38 = .bool true := hdep ⟨3, .guard⟩ (by simp) rfl
      clear hdep
      go_wp2_with (go_at_call 12; refine (len_any k1 s HS.out _ (Utf8Tabs_below HT2.out hb)).mono ?_; rintro e w1 ⟨rfl, hbc⟩; rw [HL1.out])
      exact ⟨.int .i64 L, (by simp only [updV, g4, g3] <;> rfl), rfl, hbc⟩
    · intro x w hb hdep
      have g3 : x 38 = .bool true := hdep ⟨3, .guard⟩ (by simp) rfl
      have c20 := (hb.cell (p := ⟨B + 1, 0, none⟩) hB2).trans a20; have c21 := (hb.cell (p := ⟨B + 1, 1, none⟩) hB2).trans a21
      clear hdep
      go_wp2
      exact ⟨(.agg #[.int .i64 k2, .string s]), (by simp only [updV, g3] <;> rfl), rfl, Below.refl _ _⟩
    · intro x w hb hdep
      have g6 : x 41 = (.agg #[.int .i64 k2, .string s]) := hdep ⟨6, .data⟩ (by simp) rfl
      have g3 : x 38 = .bool true := hdep ⟨3, .guard⟩ (by simp) rfl
      clear hdep
      go_wp2_with (go_at_call 12; refine (len_any k2 s HS.out _ (Utf8Tabs_below HT2.out hb)).mono ?_; rintro e w1 ⟨rfl, hbc⟩; rw [HL2.out])
      exact ⟨.int .i64 L, (by simp only [updV, g6, g3] <;> rfl), rfl, hbc⟩
    · intro x w hb hdep
      have g5 : x 40 = .int .i64 L := hdep ⟨5, .data⟩ (by simp) rfl
      have g7 : x 42 = .int .i64 L := hdep ⟨7, .data⟩ (by simp) rfl
      have g3 : x 38 = .bool true := hdep ⟨3, .guard⟩ (by simp) rfl
      clear hdep
      go_wp2
      exact ⟨.bool true, (by simp only [updV, g5, g7, g3] <;> rfl), rfl, Below.refl _ _⟩
    · intro x w hb hdep
      have g3 : x 38 = .bool true := hdep ⟨3, .data⟩ (by simp) rfl
      have g8 : x 43 = .bool true := hdep ⟨8, .data⟩ (by simp) rfl
      clear hdep
      go_wp2
      exact ⟨.bool true, (by simp only [updV, g3, g8] <;> rfl), rfl, Below.refl _ _⟩
    · intro x w hb hdep
      have g9 : x 44 = .bool true := hdep ⟨9, .data⟩ (by simp) rfl
      clear hdep
      go_wp2
      exact ⟨.bool true, (by simp only [updV, g9] <;> rfl), rfl, Below.refl _ _⟩
  case last =>
    intro x w2 hb h
    have g10 : x 4 = .bool true := h 10 (by decide)
    clear h
    simp only [g10]
    clear g10
    go_wp2
    go_ret
    exact ⟨rfl, HBW.out.trans (HB2.out.mono HBW.out.size |>.trans (hb.mono (Nat.le_trans HBW.out.size HB2.out.size)))⟩

set_option maxRecDepth 100000 in
set_option maxHeartbeats 4000000 in
theorem charsetKinds_walk (k1 k2 : Int) (s : ByteArray) (w : World) (hT : Lib.Utf8Tabs 0 1 w)  :
    Calls Tryd.prog 4 #[.string s, .agg #[.int .i64 k1, .int .i64 k2]] w fun e w' => e = .returned (.bool true) ∧ Below w.heap.size w w' := by
  have HT0 := Lib.hid hT; clear hT
  have hT := HT0.out
  rcases Bool.eq_false_or_eq_true (decide ((1000 : Int) < s.size)) with d1 | d1
  · exact klLong k1 k2 s w hT d1
  have hs : s.size ≤ 1000 := by rw [decide_eq_false_iff_not] at d1; omega
  rcases Bool.eq_false_or_eq_true (validS k1 s.data.toList) with a | a
  · rcases Bool.eq_false_or_eq_true (validS k2 s.data.toList) with b | b
    · exact klC k1 k2 s w hT hs a b
    · exact klB k1 k2 s w hT hs a b
  · exact klA k1 k2 s w hT hs a

end Go.Proofs.YtafconpneeggiaaDoor
