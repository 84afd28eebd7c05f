/- The walk of the law CharsetBest: it answers true at any string. No condition but the tables of unicode/utf8. Printed by wip/gen/bestlaw.py. -/
import Derived.Test.YtafconpneeggiaaDoorAwake07
import Derived.Test.YtafconpneeggiaaDoorRefBest
import Derived.Test.YtafconpneeggiaaDoorKinds2
namespace Go.Proofs.YtafconpneeggiaaDoor
open Go.RowKit
open Go.Lib (validD decodeL)


theorem foldR_len : ∀ (r out : List UInt8) (sp : Bool), (foldR out sp r).length ≤ out.length + 2 * r.length
  | [], out, sp => by unfold foldR; simp
  | x :: r, out, sp => by
    unfold foldR
    split
    · have := foldR_len r out true; simp only [List.length_cons]; omega
    · refine Nat.le_trans (foldR_len r _ false) ?_
      simp only [List.length_append, List.length_cons, List.length_nil]
      split <;> simp <;> omega
theorem fold_len (l : List UInt8) : (fold l).length ≤ 2 * l.length := by
  have := foldR_len l [] false
  unfold fold; simpa using this

set_option maxRecDepth 100000 in
set_option maxHeartbeats 4000000 in
theorem blLong (s : ByteArray) (w : World) (hT : Lib.Utf8Tabs 0 1 w) (d : decide ((1000 : Int) < s.size) = true) :
    Calls Tryd.prog 7 #[.string s] w fun e w' => e = .returned (.bool true) ∧ Below w.heap.size w w' := by
  have HT := Lib.hid hT; clear hT
  go_enter Tryd.func7, Tryd.ntmps7
  go_wp2_with fail
  refine (awake_any _ HT.out).mono ?_
  rintro e w1 ⟨rfl, hb1⟩
  go_wp2_with fail
  refine (awake_any _ (Utf8Tabs_below HT.out hb1)).mono ?_
  rintro e w2 ⟨rfl, hb2⟩
  go_wp2
  go_ret
  exact ⟨rfl, hb1.trans (hb2.mono hb1.size)⟩

set_option maxRecDepth 100000 in
set_option maxHeartbeats 4000000 in
theorem blShort (s : ByteArray) (w : World) (hT : Lib.Utf8Tabs 0 1 w) (hs : s.size ≤ 1000) :
    Calls Tryd.prog 7 #[.string s] w fun e w' => e = .returned (.bool true) ∧ Below w.heap.size w w' := by
  have HT := Lib.hid hT; clear hT
  have d : decide ((1000 : Int) < s.size) = false := by rw [decide_eq_false_iff_not]; omega
  have HS : Hid (s.size ≤ 16777216) := Lib.hid (by omega)
  obtain ⟨F, hF⟩ : ∃ F : ByteArray, ⟨(foldI [] s.data.toList).toArray⟩ = F := ⟨_, rfl⟩
  have hFl : F.data.toList = fold s.data.toList := by rw [← hF, foldI_eq]
  have hFs : F.size ≤ 16777216 := by
    have h1 := fold_len s.data.toList
    have h2 : F.size = F.data.toList.length := by rw [Array.length_toList]; rfl
    have h3 : s.size = s.data.toList.length := by rw [Array.length_toList]; rfl
    rw [h2, hFl]; omega
  have hF2 : (⟨(foldR [] false s.data.toList).toArray⟩ : ByteArray) = F := by rw [← hF, foldI_eq]; rfl
  have hF3 : (⟨(foldI [] F.data.toList).toArray⟩ : ByteArray) = F := by rw [foldI_eq, hFl, fold_fold, ← hF, foldI_eq]
  have HF := Lib.hid hF; have HF2 := Lib.hid hF2; have HF3 := Lib.hid hF3; have HFS := Lib.hid hFs
  obtain ⟨K, hK⟩ : ∃ K, bestK s.data.toList = K := ⟨_, rfl⟩
  obtain ⟨V, hV⟩ : ∃ V, bestV s = V := ⟨_, rfl⟩
  obtain ⟨C, hC⟩ : ∃ C, bestC s.data.toList = C := ⟨_, rfl⟩
  have HK := Lib.hid hK; have HV := Lib.hid hV; have HC := Lib.hid hC
  clear hs hF hFl hFs hF2 hF3 hK hV hC
  go_enter Tryd.func7, Tryd.ntmps7
  go_wp2_with fail
  refine (awake_any _ HT.out).mono ?_
  rintro e w1 ⟨rfl, hb1⟩
  have HB1 := Lib.hid hb1; clear hb1
  go_wp2_with fail
  refine (best_any s HS.out _ (Utf8Tabs_below HT.out HB1.out)).mono ?_
  rintro e w2 ⟨rfl, hb⟩
  rw [HK.out, HV.out, HC.out]
  have HB2 := Lib.hid (HB1.out.trans (hb.mono HB1.out.size)); clear hb
  go_wp2_with fail
  refine (rBest_any s HS.out _).mono ?_
  rintro e w3 ⟨rfl, hb⟩
  rw [HK.out, HV.out, HC.out]
  have hB : Below w2.heap.size w2 w3 := Below.trans (by (repeat (first | exact Below.refl _ _ | refine Below.setCell ?_ ?_ _ | refine Below.alloc ?_ ?_ _ | refine Below.drew ?_)) <;> first | omega | (simp; done) | (simp; omega)) (hb.mono (by first | omega | (simp; done) | (simp; omega) | (simp [go_sem]; done) | (simp [go_sem]; omega)))
  have HB3 := Lib.hid (HB2.out.trans (hB.mono HB2.out.size)); clear hB
  obtain ⟨hc, -⟩ := bcell hb
  have c0 : w3.cell? ⟨w2.heap.size, 0, none⟩ = some (.int .i64 K) := by rw [hc w2.heap.size 0 (by first | omega | (simp; done) | (simp; omega) | (simp [go_sem]; done) | (simp [go_sem]; omega))]; simp [go_sem]
  have c1 : w3.cell? ⟨w2.heap.size, 1, none⟩ = some (.string V) := by rw [hc w2.heap.size 1 (by first | omega | (simp; done) | (simp; omega) | (simp [go_sem]; done) | (simp [go_sem]; omega))]; simp [go_sem]
  clear hc hb
  have hz2 := lt_of_cell c0
  go_wp2_with fail
  refine (fold_any s HS.out _).mono ?_
  rintro e w4 ⟨rfl, hb⟩
  rw [HF.out]
  have hB : Below w3.heap.size w3 w4 := Below.trans (by (repeat (first | exact Below.refl _ _ | refine Below.setCell ?_ ?_ _ | refine Below.alloc ?_ ?_ _ | refine Below.drew ?_)) <;> first | omega | (simp; done) | (simp; omega)) (hb.mono (by first | omega | (simp; done) | (simp; omega) | (simp [go_sem]; done) | (simp [go_sem]; omega)))
  have HB4 := Lib.hid (HB3.out.trans (hB.mono HB3.out.size))
  obtain ⟨hc, -⟩ := bcell hb
  have c0' : w4.cell? ⟨w2.heap.size, 0, none⟩ = some (.int .i64 K) := (hc (w2.heap.size) 0 (by first | omega | (simp; done) | (simp; omega) | (simp [go_sem]; done) | (simp [go_sem]; omega))).trans (by first | exact c0 | (rw [World.cell?_alloc_past _ _ _ (by omega)]; exact c0))
  have c1' : w4.cell? ⟨w2.heap.size, 1, none⟩ = some (.string V) := (hc (w2.heap.size) 1 (by first | omega | (simp; done) | (simp; omega) | (simp [go_sem]; done) | (simp [go_sem]; omega))).trans (by first | exact c1 | (rw [World.cell?_alloc_past _ _ _ (by omega)]; exact c1))
  have e0' : w4.cell? ⟨w3.heap.size, 0, none⟩ = some (.int .i64 K) := by rw [hc (w3.heap.size) 0 (by first | omega | (simp; done) | (simp; omega) | (simp [go_sem]; done) | (simp [go_sem]; omega))]; simp [go_sem]
  have e1' : w4.cell? ⟨w3.heap.size, 1, none⟩ = some (.string V) := by rw [hc (w3.heap.size) 1 (by first | omega | (simp; done) | (simp; omega) | (simp [go_sem]; done) | (simp [go_sem]; omega))]; simp [go_sem]
  clear hc hb hB c0 c1
  have c0 := c0'; clear c0'
  have c1 := c1'; clear c1'
  have e0 := e0'; clear e0'
  have e1 := e1'; clear e1'
  have hz3 := lt_of_cell e0
  go_wp2_with fail
  refine (rFold_any s HS.out _).mono ?_
  rintro e w5 ⟨rfl, hb⟩
  rw [HF2.out]
  have hB : Below w4.heap.size w4 w5 := Below.trans (by (repeat (first | exact Below.refl _ _ | refine Below.setCell ?_ ?_ _ | refine Below.alloc ?_ ?_ _ | refine Below.drew ?_)) <;> first | omega | (simp; done) | (simp; omega)) (hb.mono (by first | omega | (simp; done) | (simp; omega) | (simp [go_sem]; done) | (simp [go_sem]; omega)))
  have HB5 := Lib.hid (HB4.out.trans (hB.mono HB4.out.size))
  obtain ⟨hc, -⟩ := bcell hb
  clear hc hb hB 
  go_wp2_with fail
  refine (fold_any F HFS.out _).mono ?_
  rintro e w6 ⟨rfl, hb⟩
  rw [HF3.out]
  have hB : Below w5.heap.size w5 w6 := Below.trans (by (repeat (first | exact Below.refl _ _ | refine Below.setCell ?_ ?_ _ | refine Below.alloc ?_ ?_ _ | refine Below.drew ?_)) <;> first | omega | (simp; done) | (simp; omega)) (hb.mono (by first | omega | (simp; done) | (simp; omega) | (simp [go_sem]; done) | (simp [go_sem]; omega)))
  have HB6 := Lib.hid (HB5.out.trans (hB.mono HB5.out.size))
  obtain ⟨hc, -⟩ := bcell hb
  clear hc hb hB 
  go_wp2_with fail
  refine (kinds_any _).mono ?_
  rintro e w7 ⟨v1, rfl, r1, hb⟩
  have R1 := Lib.hid r1; clear r1
  have hB : Below w6.heap.size w6 w7 := Below.trans (by (repeat (first | exact Below.refl _ _ | refine Below.setCell ?_ ?_ _ | refine Below.alloc ?_ ?_ _ | refine Below.drew ?_)) <;> first | omega | (simp; done) | (simp; omega)) (hb.mono (by first | omega | (simp; done) | (simp; omega) | (simp [go_sem]; done) | (simp [go_sem]; omega)))
  have HB7 := Lib.hid (HB6.out.trans (hB.mono HB6.out.size))
  obtain ⟨hc, -⟩ := bcell hb
  clear hc hb hB 
  go_wp2_with fail
  refine (rKinds_any _).mono ?_
  rintro e w8 ⟨v2, rfl, r2, hb⟩
  have R1' := Lib.hid (R1.out.below hb); have R2 := Lib.hid r2; clear r2
  have hB : Below w7.heap.size w7 w8 := Below.trans (by (repeat (first | exact Below.refl _ _ | refine Below.setCell ?_ ?_ _ | refine Below.alloc ?_ ?_ _ | refine Below.drew ?_)) <;> first | omega | (simp; done) | (simp; omega)) (hb.mono (by first | omega | (simp; done) | (simp; omega) | (simp [go_sem]; done) | (simp [go_sem]; omega)))
  have HB8 := Lib.hid (HB7.out.trans (hB.mono HB7.out.size))
  obtain ⟨hc, -⟩ := bcell hb
  clear hc hb hB 
  go_wp2_with fail
  refine (Ints_eq _ _ _ _ _ kindsL 7 rfl (by omega) R1'.out R2.out).mono ?_
  rintro e w9 ⟨rfl, hb⟩
  go_wp2
  go_ret
  exact ⟨rfl, HB8.out.trans (hb.mono HB8.out.size)⟩

set_option maxRecDepth 100000 in
set_option maxHeartbeats 4000000 in
theorem charsetBest_walk (s : ByteArray) (w : World) (hT : Lib.Utf8Tabs 0 1 w)  :
    Calls Tryd.prog 7 #[.string s] w fun e w' => e = .returned (.bool true) ∧ Below w.heap.size w w' := by
  have HT := Lib.hid hT; clear hT
  rcases Bool.eq_false_or_eq_true (decide ((1000 : Int) < s.size)) with d1 | d1
  · exact blLong s w HT.out d1
  · exact blShort s w HT.out (by rw [decide_eq_false_iff_not] at d1; omega)

end Go.Proofs.YtafconpneeggiaaDoor
