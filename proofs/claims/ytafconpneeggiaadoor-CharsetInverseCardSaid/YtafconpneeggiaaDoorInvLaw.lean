/- The walk of the law CharsetInverse: it answers true at any kind and any octets. No condition but the tables of unicode/utf8. -/
import Derived.Test.YtafconpneeggiaaDoorAwake07
import Derived.Test.YtafconpneeggiaaDoorDecO
namespace Go.Proofs.YtafconpneeggiaaDoor
open Go.RowKit
open Go.Lib (validD decodeL)

set_option maxRecDepth 100000 in
set_option maxHeartbeats 4000000 in
theorem ivLong (k : Int) (S : Nat → Prop) (v : Value) (c : List UInt8) (w : World) (hrd : RdBytes S w v c) (hT : Lib.Utf8Tabs 0 1 w) (hl : 1000 < c.length) :
    Calls Tryd.prog 5 #[.int .i64 k, v] w fun e w' => e = .returned (.bool true) ∧ Below w.heap.size w w' := by
  have HT := Lib.hid hT; clear hT
  obtain ⟨a, cp, rfl, hq1, hq2, hq3, hq4⟩ := hrd
  obtain ⟨nc, hn⟩ : ∃ n, c.length = n := ⟨_, rfl⟩
  rw [hn] at hl hq1 ⊢
  have d : decide ((1000 : Int) < (nc : Int)) = true := by rw [decide_eq_true_iff]; omega
  clear hq2 hq3 hq4 hn
  go_enter Tryd.func5, Tryd.ntmps5
  go_wp2_with fail
  refine (awake_any _ HT.out).mono ?_
  rintro e w1 ⟨rfl, hb1⟩
  go_wp2_with fail
  refine (awake_any _ (Utf8Tabs_below HT.out hb1)).mono ?_
  rintro e w2 ⟨rfl, hb2⟩
  go_wp2
  go_ret
  exact ⟨rfl, hb1.trans (hb2.mono hb1.size)⟩

set_option maxRecDepth 100000 in
set_option maxHeartbeats 4000000 in
theorem ivShort (k : Int) (S : Nat → Prop) (v : Value) (c : List UInt8) (w : World) (hrd : RdBytes S w v c) (hT : Lib.Utf8Tabs 0 1 w) (hl : c.length ≤ 1000) :
    Calls Tryd.prog 5 #[.int .i64 k, v] w fun e w' => e = .returned (.bool true) ∧ Below w.heap.size w w' := by
  have HT := Lib.hid hT; clear hT
  have HS : Hid (c.length ≤ 1000000) := Lib.hid (by omega)
  have HRD := Lib.hid hrd
  obtain ⟨a, cp, rfl, hq1, hq2, hq3, hq4⟩ := hrd
  obtain ⟨nc, hn⟩ : ∃ n, c.length = n := ⟨_, rfl⟩
  rw [hn] at hl hq1 HRD ⊢
  have d : decide ((1000 : Int) < (nc : Int)) = false := by rw [decide_eq_false_iff_not]; omega
  obtain ⟨K, hK⟩ : ∃ K, decK k c = K := ⟨_, rfl⟩
  obtain ⟨V, hV⟩ : ∃ V : ByteArray, ⟨(decV k c).toArray⟩ = V := ⟨_, rfl⟩
  obtain ⟨C, hC⟩ : ∃ C, decC k c = C := ⟨_, rfl⟩
  have HK := Lib.hid hK; have HV := Lib.hid hV; have HC := Lib.hid hC
  have hcase : (C = 0 ∧ V.size ≤ 16777216 ∧ encC K V.data.toList = 0 ∧ encR K V.data.toList = c) ∨ (C == 0) = false := by
    by_cases hneg : widthS k < 0
    · exact .inr (by rw [← hC]; unfold decC; rw [if_pos hneg]; rfl)
    · cases ho : okD k c with
      | false => exact .inr (by rw [← hC]; unfold decC; rw [if_neg hneg, ho]; rfl)
      | true =>
        have e1 : decK k c = k := by unfold decK; rw [if_neg hneg, ho]; rfl
        have e2 : decV k c = decB k c := by unfold decV; rw [if_neg hneg, ho]; rfl
        have e3 : decC k c = 0 := by unfold decC; rw [if_neg hneg, ho]; rfl
        have ho' := ho
        unfold okD at ho'
        simp only [Bool.and_eq_true, beq_iff_eq] at ho'
        have hVl : V.data.toList = decB k c := by rw [← hV, e2]
        have hsz : V.size ≤ 16777216 := by
          have h2 : V.size = V.data.toList.length := by rw [Array.length_toList]; rfl
          rw [h2, hVl]
          exact Nat.le_trans (decB_len k c (by omega)) (by omega)
        refine .inl ⟨by rw [← hC, e3], hsz, ?_, ?_⟩
        · rw [hVl, ← hK, e1]; unfold encC; rw [ho'.1]; rfl
        · rw [hVl, ← hK, e1]; unfold encR; rw [ho'.1]; exact ho'.2
  have HCS := Lib.hid hcase
  clear hq2 hq3 hq4 hn hK hV hC hcase
  go_enter Tryd.func5, Tryd.ntmps5
  go_wp2_with fail
  refine (awake_any _ HT.out).mono ?_
  rintro e w1 ⟨rfl, hb1⟩
  have HB1 := Lib.hid hb1; clear hb1
  go_wp2_with fail
  refine (dec_any k S _ c _ (HRD.out.below HB1.out) HS.out (Utf8Tabs_below HT.out HB1.out)).mono ?_
  rintro e w2 ⟨rfl, hb⟩
  rw [HK.out, HV.out, HC.out]
  have HB2 := Lib.hid (HB1.out.trans (hb.mono HB1.out.size)); clear hb
  go_wp2_with fail
  refine (rDecode_any k S _ c _ (HRD.out.below (HB2.out.alloc HB2.out.size _)) HS.out).mono ?_
  rintro e w3 ⟨rfl, hb⟩
  rw [HK.out, HV.out, HC.out]
  have hB : Below w2.heap.size w2 w3 := Below.trans (by (repeat (first | exact Below.refl _ _ | refine Below.setCell ?_ ?_ _ | refine Below.alloc ?_ ?_ _ | refine Below.drew ?_)) <;> first | omega | (simp; done) | (simp; omega)) (hb.mono (by first | omega | (simp; done) | (simp; omega) | (simp [go_sem]; done) | (simp [go_sem]; omega)))
  have HB3 := Lib.hid (HB2.out.trans (hB.mono HB2.out.size)); clear hB
  obtain ⟨hc, -⟩ := bcell hb
  have c0 : w3.cell? ⟨w2.heap.size, 0, none⟩ = some (.int .i64 K) := by rw [hc w2.heap.size 0 (by first | omega | (simp; done) | (simp; omega) | (simp [go_sem]; done) | (simp [go_sem]; omega))]; simp [go_sem]
  have c1 : w3.cell? ⟨w2.heap.size, 1, none⟩ = some (.string V) := by rw [hc w2.heap.size 1 (by first | omega | (simp; done) | (simp; omega) | (simp [go_sem]; done) | (simp [go_sem]; omega))]; simp [go_sem]
  clear hc hb
  have hz2 := lt_of_cell c0
  rcases HCS.out with ⟨rfl, hsz, he1, he2⟩ | hne
  · have HE1 := Lib.hid he1; have HE2 := Lib.hid he2; have HSZ := Lib.hid hsz; clear he1 he2 hsz
    go_wp2_with fail
    refine (encode_any K V HSZ.out _ (Utf8Tabs_below HT.out (HB3.out.alloc HB3.out.size _))).mono ?_
    rintro e w4 ⟨vb, rfl, rb, hb⟩
    rw [HE1.out]
    rw [HE2.out] at rb
    have HRB := Lib.hid rb; clear rb
    have hB : Below w3.heap.size w3 w4 := Below.trans (by (repeat (first | exact Below.refl _ _ | refine Below.setCell ?_ ?_ _ | refine Below.alloc ?_ ?_ _ | refine Below.drew ?_)) <;> first | omega | (simp; done) | (simp; omega)) (hb.mono (by first | omega | (simp; done) | (simp; omega) | (simp [go_sem]; done) | (simp [go_sem]; omega)))
    have HB4 := Lib.hid (HB3.out.trans (hB.mono HB3.out.size)); clear hB hb
    go_wp2_with fail
    refine (Bytes_any _ _ _ _ _ c c HRB.out (HRD.out.below HB4.out)).mono ?_
    rintro e w5 ⟨rfl, rfl⟩
    rw [show (c == c) = true from by simp]
    go_wp2
    go_ret
    exact ⟨rfl, HB4.out⟩
  · go_wp2
    go_ret
    exact ⟨rfl, HB3.out.alloc HB3.out.size _⟩

theorem charsetInverse_walk (k : Int) (S : Nat → Prop) (v : Value) (c : List UInt8) (w : World) (hrd : RdBytes S w v c) (hT : Lib.Utf8Tabs 0 1 w) :
    Calls Tryd.prog 5 #[.int .i64 k, v] w fun e w' => e = .returned (.bool true) ∧ Below w.heap.size w w' := by
  rcases Nat.lt_or_ge 1000 c.length with h | h
  · exact ivLong k S v c w hrd hT h
  · exact ivShort k S v c w hrd hT h

end Go.Proofs.YtafconpneeggiaaDoor
