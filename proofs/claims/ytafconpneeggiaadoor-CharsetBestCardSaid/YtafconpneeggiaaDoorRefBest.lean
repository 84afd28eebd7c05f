/- The walk of the reference's Best. Strings of at most 16777216 bytes. Printed by wip/gen/refbest.py. -/
import Derived.Test.YtafconpneeggiaaDoorBest
namespace Go.Proofs.YtafconpneeggiaaDoor
open Go.RowKit
open Go.Lib (validD decodeL)

set_option maxRecDepth 100000 in
set_option maxHeartbeats 4000000 in
theorem rBest_any (s : ByteArray) (hs : s.size ≤ 16777216) (w : World) :
    Calls Tryd.prog 21 #[.string s] w (BestPost s w) := by
  rcases Bool.eq_false_or_eq_true (validS 19 s.data.toList) with h1 | h1
  · have H1 := Lib.hid h1; clear h1
    go_enter Tryd.func21, Tryd.ntmps21
    go_wp2_with (go_at_call 11; refine (rValid_any 19 s hs _).mono ?_; rintro e w1 ⟨rfl, hb⟩; rw [H1.out]; have hB : Below w.heap.size w w1 := Below.trans (by (repeat (first | exact Below.refl _ _ | refine Below.setCell ?_ ?_ _ | refine Below.alloc ?_ ?_ _ | refine Below.drew ?_)) <;> first | omega | (simp; done) | (simp; omega)) (hb.mono (by first | omega | (simp; done) | (simp; omega) | (simp [go_sem]; done) | (simp [go_sem]; omega))); have HB1 := Lib.hid hB; clear hB; have hz1 : w.heap.size + 1 < w1.heap.size := by { have := hb.size; simp at this; omega }; obtain ⟨hc, hf⟩ := bcell hb; clear hb; have c0 : w1.cell? ⟨w.heap.size, 0, none⟩ = some (.int .i64 0) := by { rw [hc (w.heap.size) 0 (by first | omega | (simp; done) | (simp; omega) | (simp [go_sem]; done) | (simp [go_sem]; omega))]; simp [go_sem] }; have z0 : w1.frozen? ⟨w.heap.size, 0, none⟩ = false := by { rw [hf (w.heap.size) 0 (by first | omega | (simp; done) | (simp; omega) | (simp [go_sem]; done) | (simp [go_sem]; omega))]; simp [go_sem] }; have c1 : w1.cell? ⟨w.heap.size, 1, none⟩ = some (.string { data := #[] }) := by { rw [hc (w.heap.size) 1 (by first | omega | (simp; done) | (simp; omega) | (simp [go_sem]; done) | (simp [go_sem]; omega))]; simp [go_sem] }; have z1 : w1.frozen? ⟨w.heap.size, 1, none⟩ = false := by { rw [hf (w.heap.size) 1 (by first | omega | (simp; done) | (simp; omega) | (simp [go_sem]; done) | (simp [go_sem]; omega))]; simp [go_sem] }; have c2 : w1.cell? ⟨w.heap.size + 1, 0, none⟩ = some (.int .i64 19) := by { rw [hc (w.heap.size + 1) 0 (by first | omega | (simp; done) | (simp; omega) | (simp [go_sem]; done) | (simp [go_sem]; omega))]; simp [go_sem] }; have z2 : w1.frozen? ⟨w.heap.size + 1, 0, none⟩ = false := by { rw [hf (w.heap.size + 1) 0 (by first | omega | (simp; done) | (simp; omega) | (simp [go_sem]; done) | (simp [go_sem]; omega))]; simp [go_sem] }; have c3 : w1.cell? ⟨w.heap.size + 1, 1, none⟩ = some (.string s) := by { rw [hc (w.heap.size + 1) 1 (by first | omega | (simp; done) | (simp; omega) | (simp [go_sem]; done) | (simp [go_sem]; omega))]; simp [go_sem] }; have z3 : w1.frozen? ⟨w.heap.size + 1, 1, none⟩ = false := by { rw [hf (w.heap.size + 1) 1 (by first | omega | (simp; done) | (simp; omega) | (simp [go_sem]; done) | (simp [go_sem]; omega))]; simp [go_sem] }; clear hc hf)
    have hts := two_stored c0 c1 (.int .i64 19) (.string s)
    refine ret_two Tryd.results21 ⟨_, rfl, loadVar_cells _ _ _ 0 [.int .i64 19, .string s] _ Tryd.underlying23 rfl (by kernel_rfl) (cells2 hts.1 hts.2)⟩ rfl rfl ⟨by unfold bestK bestV bestC; simp [H1.out], ?_⟩
    exact (by (repeat (first | exact HB1.out | refine Below.setCell ?_ ?_ _ | refine Below.alloc ?_ ?_ _ | refine Below.drew ?_)) <;> first | omega | (simp; done) | (simp; omega))
  rcases Bool.eq_false_or_eq_true (validS 12 s.data.toList) with h2 | h2
  · have H1 := Lib.hid h1; clear h1; have H2 := Lib.hid h2; clear h2
    go_enter Tryd.func21, Tryd.ntmps21
    go_wp2_with fail
    refine (rValid_any 19 s hs _).mono ?_
    rintro e w1 ⟨rfl, hb⟩
    rw [H1.out]
    have hB : Below w.heap.size w w1 := Below.trans (by (repeat (first | exact Below.refl _ _ | refine Below.setCell ?_ ?_ _ | refine Below.alloc ?_ ?_ _ | refine Below.drew ?_)) <;> first | omega | (simp; done) | (simp; omega)) (hb.mono (by first | omega | (simp; done) | (simp; omega) | (simp [go_sem]; done) | (simp [go_sem]; omega)))
    have HB1 := Lib.hid hB; clear hB
    have hz1 : w.heap.size + 1 < w1.heap.size := by { have := hb.size; simp at this; omega }
    obtain ⟨hc, hf⟩ := bcell hb
    clear hb
    have c0 : w1.cell? ⟨w.heap.size, 0, none⟩ = some (.int .i64 0) := by { rw [hc (w.heap.size) 0 (by first | omega | (simp; done) | (simp; omega) | (simp [go_sem]; done) | (simp [go_sem]; omega))]; simp [go_sem] }
    have z0 : w1.frozen? ⟨w.heap.size, 0, none⟩ = false := by { rw [hf (w.heap.size) 0 (by first | omega | (simp; done) | (simp; omega) | (simp [go_sem]; done) | (simp [go_sem]; omega))]; simp [go_sem] }
    have c1 : w1.cell? ⟨w.heap.size, 1, none⟩ = some (.string { data := #[] }) := by { rw [hc (w.heap.size) 1 (by first | omega | (simp; done) | (simp; omega) | (simp [go_sem]; done) | (simp [go_sem]; omega))]; simp [go_sem] }
    have z1 : w1.frozen? ⟨w.heap.size, 1, none⟩ = false := by { rw [hf (w.heap.size) 1 (by first | omega | (simp; done) | (simp; omega) | (simp [go_sem]; done) | (simp [go_sem]; omega))]; simp [go_sem] }
    have c2 : w1.cell? ⟨w.heap.size + 1, 0, none⟩ = some (.int .i64 19) := by { rw [hc (w.heap.size + 1) 0 (by first | omega | (simp; done) | (simp; omega) | (simp [go_sem]; done) | (simp [go_sem]; omega))]; simp [go_sem] }
    have z2 : w1.frozen? ⟨w.heap.size + 1, 0, none⟩ = false := by { rw [hf (w.heap.size + 1) 0 (by first | omega | (simp; done) | (simp; omega) | (simp [go_sem]; done) | (simp [go_sem]; omega))]; simp [go_sem] }
    have c3 : w1.cell? ⟨w.heap.size + 1, 1, none⟩ = some (.string s) := by { rw [hc (w.heap.size + 1) 1 (by first | omega | (simp; done) | (simp; omega) | (simp [go_sem]; done) | (simp [go_sem]; omega))]; simp [go_sem] }
    have z3 : w1.frozen? ⟨w.heap.size + 1, 1, none⟩ = false := by { rw [hf (w.heap.size + 1) 1 (by first | omega | (simp; done) | (simp; omega) | (simp [go_sem]; done) | (simp [go_sem]; omega))]; simp [go_sem] }
    clear hc hf
    go_wp2_with fail
    refine (rValid_any 12 s hs _).mono ?_
    rintro e w2 ⟨rfl, hb⟩
    rw [H2.out]
    have hB : Below w.heap.size w w2 := Below.trans (by (repeat (first | exact HB1.out | refine Below.setCell ?_ ?_ _ | refine Below.alloc ?_ ?_ _ | refine Below.drew ?_)) <;> first | omega | (simp; done) | (simp; omega)) (hb.mono (by first | omega | (simp; done) | (simp; omega) | (simp [go_sem]; done) | (simp [go_sem]; omega)))
    have HB2 := Lib.hid hB; clear hB
    obtain ⟨hc, hf⟩ := bcell hb
    clear hb
    have e0 : w2.cell? ⟨w.heap.size, 0, none⟩ = some (.int .i64 0) := (hc (w.heap.size) 0 (by first | omega | (simp; done) | (simp; omega) | (simp [go_sem]; done) | (simp [go_sem]; omega))).trans (by rw [World.cell?_setCell_other _ _ _ _ (by simp)]; exact c0); have y0 : w2.frozen? ⟨w.heap.size, 0, none⟩ = false := (hf (w.heap.size) 0 (by first | omega | (simp; done) | (simp; omega) | (simp [go_sem]; done) | (simp [go_sem]; omega))).trans ((World.frozen?_setCell ..).trans z0)
    have e1 : w2.cell? ⟨w.heap.size, 1, none⟩ = some (.string { data := #[] }) := (hc (w.heap.size) 1 (by first | omega | (simp; done) | (simp; omega) | (simp [go_sem]; done) | (simp [go_sem]; omega))).trans (by rw [World.cell?_setCell_other _ _ _ _ (by simp)]; exact c1); have y1 : w2.frozen? ⟨w.heap.size, 1, none⟩ = false := (hf (w.heap.size) 1 (by first | omega | (simp; done) | (simp; omega) | (simp [go_sem]; done) | (simp [go_sem]; omega))).trans ((World.frozen?_setCell ..).trans z1)
    have e2 : w2.cell? ⟨w.heap.size + 1, 0, none⟩ = some (.int .i64 12) := (hc (w.heap.size + 1) 0 (by first | omega | (simp; done) | (simp; omega) | (simp [go_sem]; done) | (simp [go_sem]; omega))).trans (by exact World.cell?_setCell_same' _ _ _ (by simp [c2])); have y2 : w2.frozen? ⟨w.heap.size + 1, 0, none⟩ = false := (hf (w.heap.size + 1) 0 (by first | omega | (simp; done) | (simp; omega) | (simp [go_sem]; done) | (simp [go_sem]; omega))).trans ((World.frozen?_setCell ..).trans z2)
    have e3 : w2.cell? ⟨w.heap.size + 1, 1, none⟩ = some (.string s) := (hc (w.heap.size + 1) 1 (by first | omega | (simp; done) | (simp; omega) | (simp [go_sem]; done) | (simp [go_sem]; omega))).trans (by rw [World.cell?_setCell_other _ _ _ _ (by simp)]; exact c3); have y3 : w2.frozen? ⟨w.heap.size + 1, 1, none⟩ = false := (hf (w.heap.size + 1) 1 (by first | omega | (simp; done) | (simp; omega) | (simp [go_sem]; done) | (simp [go_sem]; omega))).trans ((World.frozen?_setCell ..).trans z3)
    clear hc hf c0 c1 c2 c3 z0 z1 z2 z3
    go_wp2
    have hts := two_stored e0 e1 (.int .i64 12) (.string s)
    refine ret_two Tryd.results21 ⟨_, rfl, loadVar_cells _ _ _ 0 [.int .i64 12, .string s] _ Tryd.underlying23 rfl (by kernel_rfl) (cells2 hts.1 hts.2)⟩ rfl rfl ⟨by unfold bestK bestV bestC; simp [H1.out, H2.out], ?_⟩
    exact (by (repeat (first | exact HB2.out | refine Below.setCell ?_ ?_ _ | refine Below.alloc ?_ ?_ _ | refine Below.drew ?_)) <;> first | omega | (simp; done) | (simp; omega))
  · have H1 := Lib.hid h1; clear h1; have H2 := Lib.hid h2; clear h2
    go_enter Tryd.func21, Tryd.ntmps21
    go_wp2_with fail
    refine (rValid_any 19 s hs _).mono ?_
    rintro e w1 ⟨rfl, hb⟩
    rw [H1.out]
    have hB : Below w.heap.size w w1 := Below.trans (by (repeat (first | exact Below.refl _ _ | refine Below.setCell ?_ ?_ _ | refine Below.alloc ?_ ?_ _ | refine Below.drew ?_)) <;> first | omega | (simp; done) | (simp; omega)) (hb.mono (by first | omega | (simp; done) | (simp; omega) | (simp [go_sem]; done) | (simp [go_sem]; omega)))
    have HB1 := Lib.hid hB; clear hB
    have hz1 : w.heap.size + 1 < w1.heap.size := by { have := hb.size; simp at this; omega }
    obtain ⟨hc, hf⟩ := bcell hb
    clear hb
    have c0 : w1.cell? ⟨w.heap.size, 0, none⟩ = some (.int .i64 0) := by { rw [hc (w.heap.size) 0 (by first | omega | (simp; done) | (simp; omega) | (simp [go_sem]; done) | (simp [go_sem]; omega))]; simp [go_sem] }
    have z0 : w1.frozen? ⟨w.heap.size, 0, none⟩ = false := by { rw [hf (w.heap.size) 0 (by first | omega | (simp; done) | (simp; omega) | (simp [go_sem]; done) | (simp [go_sem]; omega))]; simp [go_sem] }
    have c1 : w1.cell? ⟨w.heap.size, 1, none⟩ = some (.string { data := #[] }) := by { rw [hc (w.heap.size) 1 (by first | omega | (simp; done) | (simp; omega) | (simp [go_sem]; done) | (simp [go_sem]; omega))]; simp [go_sem] }
    have z1 : w1.frozen? ⟨w.heap.size, 1, none⟩ = false := by { rw [hf (w.heap.size) 1 (by first | omega | (simp; done) | (simp; omega) | (simp [go_sem]; done) | (simp [go_sem]; omega))]; simp [go_sem] }
    have c2 : w1.cell? ⟨w.heap.size + 1, 0, none⟩ = some (.int .i64 19) := by { rw [hc (w.heap.size + 1) 0 (by first | omega | (simp; done) | (simp; omega) | (simp [go_sem]; done) | (simp [go_sem]; omega))]; simp [go_sem] }
    have z2 : w1.frozen? ⟨w.heap.size + 1, 0, none⟩ = false := by { rw [hf (w.heap.size + 1) 0 (by first | omega | (simp; done) | (simp; omega) | (simp [go_sem]; done) | (simp [go_sem]; omega))]; simp [go_sem] }
    have c3 : w1.cell? ⟨w.heap.size + 1, 1, none⟩ = some (.string s) := by { rw [hc (w.heap.size + 1) 1 (by first | omega | (simp; done) | (simp; omega) | (simp [go_sem]; done) | (simp [go_sem]; omega))]; simp [go_sem] }
    have z3 : w1.frozen? ⟨w.heap.size + 1, 1, none⟩ = false := by { rw [hf (w.heap.size + 1) 1 (by first | omega | (simp; done) | (simp; omega) | (simp [go_sem]; done) | (simp [go_sem]; omega))]; simp [go_sem] }
    clear hc hf
    go_wp2_with fail
    refine (rValid_any 12 s hs _).mono ?_
    rintro e w2 ⟨rfl, hb⟩
    rw [H2.out]
    have hB : Below w.heap.size w w2 := Below.trans (by (repeat (first | exact HB1.out | refine Below.setCell ?_ ?_ _ | refine Below.alloc ?_ ?_ _ | refine Below.drew ?_)) <;> first | omega | (simp; done) | (simp; omega)) (hb.mono (by first | omega | (simp; done) | (simp; omega) | (simp [go_sem]; done) | (simp [go_sem]; omega)))
    have HB2 := Lib.hid hB; clear hB
    obtain ⟨hc, hf⟩ := bcell hb
    clear hb
    have e0 : w2.cell? ⟨w.heap.size, 0, none⟩ = some (.int .i64 0) := (hc (w.heap.size) 0 (by first | omega | (simp; done) | (simp; omega) | (simp [go_sem]; done) | (simp [go_sem]; omega))).trans (by rw [World.cell?_setCell_other _ _ _ _ (by simp)]; exact c0); have y0 : w2.frozen? ⟨w.heap.size, 0, none⟩ = false := (hf (w.heap.size) 0 (by first | omega | (simp; done) | (simp; omega) | (simp [go_sem]; done) | (simp [go_sem]; omega))).trans ((World.frozen?_setCell ..).trans z0)
    have e1 : w2.cell? ⟨w.heap.size, 1, none⟩ = some (.string { data := #[] }) := (hc (w.heap.size) 1 (by first | omega | (simp; done) | (simp; omega) | (simp [go_sem]; done) | (simp [go_sem]; omega))).trans (by rw [World.cell?_setCell_other _ _ _ _ (by simp)]; exact c1); have y1 : w2.frozen? ⟨w.heap.size, 1, none⟩ = false := (hf (w.heap.size) 1 (by first | omega | (simp; done) | (simp; omega) | (simp [go_sem]; done) | (simp [go_sem]; omega))).trans ((World.frozen?_setCell ..).trans z1)
    have e2 : w2.cell? ⟨w.heap.size + 1, 0, none⟩ = some (.int .i64 12) := (hc (w.heap.size + 1) 0 (by first | omega | (simp; done) | (simp; omega) | (simp [go_sem]; done) | (simp [go_sem]; omega))).trans (by exact World.cell?_setCell_same' _ _ _ (by simp [c2])); have y2 : w2.frozen? ⟨w.heap.size + 1, 0, none⟩ = false := (hf (w.heap.size + 1) 0 (by first | omega | (simp; done) | (simp; omega) | (simp [go_sem]; done) | (simp [go_sem]; omega))).trans ((World.frozen?_setCell ..).trans z2)
    have e3 : w2.cell? ⟨w.heap.size + 1, 1, none⟩ = some (.string s) := (hc (w.heap.size + 1) 1 (by first | omega | (simp; done) | (simp; omega) | (simp [go_sem]; done) | (simp [go_sem]; omega))).trans (by rw [World.cell?_setCell_other _ _ _ _ (by simp)]; exact c3); have y3 : w2.frozen? ⟨w.heap.size + 1, 1, none⟩ = false := (hf (w.heap.size + 1) 1 (by first | omega | (simp; done) | (simp; omega) | (simp [go_sem]; done) | (simp [go_sem]; omega))).trans ((World.frozen?_setCell ..).trans z3)
    clear hc hf c0 c1 c2 c3 z0 z1 z2 z3
    go_wp2
    have hts := two_stored e0 e1 (.int .i64 0) (.string { data := #[] })
    refine ret_two Tryd.results21 ⟨_, rfl, loadVar_cells _ _ _ 0 [.int .i64 0, .string { data := #[] }] _ Tryd.underlying23 rfl (by kernel_rfl) (cells2 hts.1 hts.2)⟩ rfl rfl ⟨by unfold bestK bestV bestC; simp [H1.out, H2.out], ?_⟩
    exact (by (repeat (first | exact HB2.out | refine Below.setCell ?_ ?_ _ | refine Below.alloc ?_ ?_ _ | refine Below.drew ?_)) <;> first | omega | (simp; done) | (simp; omega))

end Go.Proofs.YtafconpneeggiaaDoor
