/- The walk of the reference's Encode. Strings of at most 16777216 bytes. Printed by wip/gen/refenc.py. -/
import Derived.Test.YtafconpneeggiaaDoorEncode
import Derived.Test.YtafconpneeggiaaDoorRes
import Derived.Test.YtafconpneeggiaaDoorStep
namespace Go.Proofs.YtafconpneeggiaaDoor
open Go.RowKit
open Go.Lib (validD decodeL)

/-- What the reference puts out for one character. -/
def outC (W : Int) (x : Nat) : List UInt8 := if W = 0 then octs x else bigE W.toNat x
theorem outC_len (W : Int) (x : Nat) (h : W ≤ 4) : (outC W x).length ≤ 4 := by
  unfold outC octs
  (repeat' split)
  · have := (enc_len x).2; omega
  · simp
  · rw [bigE_len]; omega
theorem flat_congr {f g : Nat → List UInt8} : ∀ l : List Nat, (∀ x ∈ l, f x = g x) → l.flatMap f = l.flatMap g
  | [], _ => rfl
  | a :: l, h => by rw [List.flatMap_cons, List.flatMap_cons, h a List.mem_cons_self, flat_congr l fun x hx => h x (List.mem_cons_of_mem _ hx)]
theorem outC_flat {k : Int} {l : List UInt8} (hv : validS k l = true) : (rns l).flatMap (outC (widthS k)) = encS k l := by
  have hvD : validD l = true := by unfold validS at hv; simp at hv; exact hv.1.1
  unfold encS
  by_cases h : widthS k = 0
  · rw [if_pos h]
    have e : ∀ x ∈ rns l, outC (widthS k) x = enc x := fun x hx => by
      unfold outC octs; rw [if_pos h, if_pos (rns_scal l hvD x hx)]
    exact (flat_congr _ e).trans (rns_flat l hvD)
  · rw [if_neg h]
    exact flat_congr _ fun x _ => by unfold outC; rw [if_neg h]
theorem rd_append_bytes {w : World} {base : Nat} {e : TypeId} {v : Value} {acc l : List UInt8} (h : w.ownsRow base e 1 v (acc.length + l.length) (Lib.byteCells acc ++ Lib.byteCells l)) : w.ownsRow base e 1 v (acc ++ l).length (Lib.byteCells (acc ++ l)) := by
  rw [List.length_append]
  have : Lib.byteCells (acc ++ l) = Lib.byteCells acc ++ Lib.byteCells l := by simp [Lib.byteCells]
  rw [this]; exact h

theorem rEnc_bad (k : Int) (s : ByteArray) (hs : s.size ≤ 16777216) (w : World) (hv : validS k s.data.toList = false) :
    Calls Tryd.prog 17 #[.agg #[.int .i64 k, .string s]] w (EncPost k s.data.toList w) := by
  have HV := Lib.hid hv; clear hv
  go_enter Tryd.func17, Tryd.ntmps17
  go_wp2_with (go_at_call 11; refine (rValid_any k s hs _).mono ?_; rintro e w1 ⟨rfl, hb⟩; rw [HV.out])
  go_ret2
  exact ⟨_, by unfold encC; rw [HV.out]; rfl, by unfold encR; rw [HV.out]; exact rd_nil _ _, ((Below.refl _ _).alloc (Nat.le_refl _) _).trans (hb.mono (by simp))⟩


set_option maxRecDepth 100000 in
set_option maxHeartbeats 4000000 in
theorem rEnc_0 (k : Int) (s : ByteArray) (hs : s.size ≤ 16777216) (w : World) (hv : validS k s.data.toList = true) (hW : widthS k = 0) :
    Calls Tryd.prog 17 #[.agg #[.int .i64 k, .string s]] w (EncPost k s.data.toList w) := by
  have hvD : validD s.data.toList = true := by have h := hv; unfold validS at h; simp at h; exact h.1.1
  have hR : ptsR s.data.toList = rns s.data.toList := by unfold ptsR; rw [hvD, if_pos rfl]
  obtain ⟨n, hn⟩ : ∃ n : Nat, (rns s.data.toList).length = n := ⟨_, rfl⟩
  have hns : n ≤ 16777216 := by
    have h1 := rns_le _ hvD
    have h2 : s.size = s.data.toList.length := by rw [Array.length_toList]; rfl
    omega
  have HR := Lib.hid hR; have HVD := Lib.hid hvD; have HV := Lib.hid hv; have HN := Lib.hid hn; have HW := Lib.hid hW
  clear hR hvD hv hn hW
  go_enter Tryd.func17, Tryd.ntmps17
  go_wp2_with (first | (go_at_call 11; refine (rValid_any k s hs _).mono ?_; rintro e w1 ⟨rfl, hb⟩; rw [HV.out]; have hc0 : w1.cell? ⟨w.heap.size, 0, none⟩ = some (.int .i64 k) := by { rw [hb.cell (by simp)]; simp }; have hc1 : w1.cell? ⟨w.heap.size, 1, none⟩ = some (.string s) := by { rw [hb.cell (by simp)]; simp }) | (go_at_call 27; refine (Points_any s hs _).mono ?_; rintro e w2 ⟨v, rfl, hrd, hb2⟩; rw [HR.out] at hrd; obtain ⟨a, c, rfl, hq1, hq2, hq3, hq4⟩ := hrd; rw [HN.out] at hq1 hq3 ⊢))
  have hk0 := cell_below hc0 hb2
  have hB0 : Below w.heap.size w w2 := (((Below.refl _ _).alloc (Nat.le_refl _) _).trans (hb.mono (by simp))).trans (hb2.mono (by have := hb.size; simp at this; omega))
  have hz1 : w.heap.size ≤ w2.heap.size := hB0.size
  have HB0 := Lib.hid hB0
  have HQ := Lib.hid hq4
  have hnm : (n : Int) ≤ 9223372036854775807 := by omega
  have hnc : n ≤ c := hq1
  clear hb hb2 hB0 hq1 hq2 hq3 hq4 hc0 hc1
  obtain ⟨n2, hn2⟩ : ∃ n2, w2.heap.size = n2 := ⟨_, rfl⟩
  have HN2 := Lib.hid hn2
  rw [hn2] at hz1; clear hn2
  have hbase : Below n2 w2 w2 := Below.refl _ _
  have hsz2 : n2 ≤ w2.heap.size := Nat.le_of_eq HN2.out.symm
  go_loopw [6, 7] (fun o i wr => ∃ (j : Nat) (acc : List UInt8), i = .int .i64 j ∧ j ≤ n ∧ wr.ownsRow n2 5 1 o acc.length (Lib.byteCells acc) ∧ acc.length ≤ 4 * j ∧ Below n2 w2 wr ∧ Hid (acc = ((rns s.data.toList).take j).flatMap (outC 0)))
    (fun _ i _ => n - (intOf i).toNat)
  case atStart => exact ⟨0, [], rfl, by omega, World.ownsRow_nil _ _ _ _, by simp, hbase, Lib.hid (by simp)⟩
  case round =>
    obtain ⟨j, acc, rfl, hj, hown, hal, hbr, hacc⟩ := hrel
    have hsr : n2 ≤ wr.heap.size := by have := hbr.size; omega
    by_cases hlt : j < n
    · obtain ⟨x, hx⟩ : ∃ x, (rns s.data.toList).getD j 0 = x := ⟨_, rfl⟩
      obtain ⟨b, o, rfl, hbS, hcell⟩ := HQ.out j (.int .i64 (x : Nat)) (by rw [← hx, List.getElem?_map, List.getD_eq_getElem?_getD, List.getElem?_eq_getElem (by rw [HN.out]; exact hlt)]; rfl)
      have hcr : wr.cell? ⟨b, o + j, none⟩ = some (.int .i64 (x : Nat)) := (hbr.cell (p := ⟨b, o + j, none⟩) (by rw [← HN2.out]; exact lt_of_cell hcell)).trans hcell
      have hkr : wr.cell? ⟨w.heap.size, 0, none⟩ = some (.int .i64 k) := (hbr.cell (p := ⟨w.heap.size, 0, none⟩) (by rw [← HN2.out]; exact lt_of_cell hk0)).trans hk0
      have hsc : scal x = true := rns_scal _ HVD.out x (by rw [← hx, List.getD_eq_getElem?_getD, List.getElem?_eq_getElem (by rw [HN.out]; exact hlt)]; exact List.getElem_mem _)
      have hxs : x < 1114112 := by rw [scal_iff] at hsc; omega
      have HX := Lib.hid hx; have HSC := Lib.hid hsc
      have HCL := Lib.hid hcell
      clear hcell hbS hx hsc hk0
      have hjn : (j : Int) < (n : Int) := by omega
      have hj0 : (0 : Int) ≤ (j : Int) := by omega
      go_wp2_with (first | (go_at_call 28; refine (width_any k _).mono ?_; rintro e w3 ⟨rfl, rfl⟩; rw [HW.out]) | (go_at_call 35; refine (Octets_any x (by omega) _).mono ?_; rintro e w4 ⟨v, rfl, hrd, hb5⟩; have hl5 : (octs x).length ≤ 4 := by { unfold octs; rw [if_pos HSC.out]; exact (enc_len x).2 }; have hown5 := owns_below hown hb5; clear hown; have hbr5 := hbr.trans (hb5.mono hsr); clear hbr hb5; have hs5 := hbr5.size) | (at_builtin; refine wpList_append_rd rfl _ _ 31 rfl byteElem hbr5 (by omega) hown5 rfl hrd rfl ?_ ?_ ?_ ?_; (intro u hu; simp only [Lib.byteCells, List.mem_map] at hu; obtain ⟨y, _, rfl⟩ := hu; rfl); (unfold maxLen; omega); omega; rintro v' w5 hown6 hb4 - - - -; clear hown5 hbr5 hrd))
      go_roundw
      case rel => exact ⟨j + 1, acc ++ octs x, by go_num, by omega, rd_append_bytes hown6, by rw [List.length_append]; have := hl5; omega, hb4, Lib.hid (by rw [take_flat _ _ _ 0 x (by rw [HN.out]; exact hlt) HX.out, hacc.out]; simp [outC])⟩
      case measure => simp [intOf]; omega
    · have hjn : ¬ (j : Int) < (n : Int) := by omega
      have hjn2 : j = n := by omega
      have HJ := Lib.hid hjn2; clear hjn2
      go_wp2
      go_ret2
      refine ⟨_, by unfold encC; rw [HV.out]; rfl, ?_, HB0.out.trans (hbr.mono hz1)⟩
      have e : encR k s.data.toList = acc := by
        unfold encR; rw [HV.out, if_pos rfl, ← outC_flat HV.out, HW.out, hacc.out, HJ.out, List.take_of_length_le (by rw [HN.out]; exact Nat.le_refl _)]
      rw [e]
      exact (RdRow.of_owns hown).mono fun b _ h => by have := h.1; omega

set_option maxRecDepth 100000 in
set_option maxHeartbeats 4000000 in
theorem rEnc_1 (k : Int) (s : ByteArray) (hs : s.size ≤ 16777216) (w : World) (hv : validS k s.data.toList = true) (hW : widthS k = 1) :
    Calls Tryd.prog 17 #[.agg #[.int .i64 k, .string s]] w (EncPost k s.data.toList w) := by
  have hvD : validD s.data.toList = true := by have h := hv; unfold validS at h; simp at h; exact h.1.1
  have hR : ptsR s.data.toList = rns s.data.toList := by unfold ptsR; rw [hvD, if_pos rfl]
  obtain ⟨n, hn⟩ : ∃ n : Nat, (rns s.data.toList).length = n := ⟨_, rfl⟩
  have hns : n ≤ 16777216 := by
    have h1 := rns_le _ hvD
    have h2 : s.size = s.data.toList.length := by rw [Array.length_toList]; rfl
    omega
  have HR := Lib.hid hR; have HVD := Lib.hid hvD; have HV := Lib.hid hv; have HN := Lib.hid hn; have HW := Lib.hid hW
  clear hR hvD hv hn hW
  go_enter Tryd.func17, Tryd.ntmps17
  go_wp2_with (first | (go_at_call 11; refine (rValid_any k s hs _).mono ?_; rintro e w1 ⟨rfl, hb⟩; rw [HV.out]; have hc0 : w1.cell? ⟨w.heap.size, 0, none⟩ = some (.int .i64 k) := by { rw [hb.cell (by simp)]; simp }; have hc1 : w1.cell? ⟨w.heap.size, 1, none⟩ = some (.string s) := by { rw [hb.cell (by simp)]; simp }) | (go_at_call 27; refine (Points_any s hs _).mono ?_; rintro e w2 ⟨v, rfl, hrd, hb2⟩; rw [HR.out] at hrd; obtain ⟨a, c, rfl, hq1, hq2, hq3, hq4⟩ := hrd; rw [HN.out] at hq1 hq3 ⊢))
  have hk0 := cell_below hc0 hb2
  have hB0 : Below w.heap.size w w2 := (((Below.refl _ _).alloc (Nat.le_refl _) _).trans (hb.mono (by simp))).trans (hb2.mono (by have := hb.size; simp at this; omega))
  have hz1 : w.heap.size ≤ w2.heap.size := hB0.size
  have HB0 := Lib.hid hB0
  have HQ := Lib.hid hq4
  have hnm : (n : Int) ≤ 9223372036854775807 := by omega
  have hnc : n ≤ c := hq1
  clear hb hb2 hB0 hq1 hq2 hq3 hq4 hc0 hc1
  obtain ⟨n2, hn2⟩ : ∃ n2, w2.heap.size = n2 := ⟨_, rfl⟩
  have HN2 := Lib.hid hn2
  rw [hn2] at hz1; clear hn2
  have hbase : Below n2 w2 w2 := Below.refl _ _
  have hsz2 : n2 ≤ w2.heap.size := Nat.le_of_eq HN2.out.symm
  go_loopw [6, 7] (fun o i wr => ∃ (j : Nat) (acc : List UInt8), i = .int .i64 j ∧ j ≤ n ∧ wr.ownsRow n2 5 1 o acc.length (Lib.byteCells acc) ∧ acc.length ≤ 4 * j ∧ Below n2 w2 wr ∧ Hid (acc = ((rns s.data.toList).take j).flatMap (outC 1)))
    (fun _ i _ => n - (intOf i).toNat)
  case atStart => exact ⟨0, [], rfl, by omega, World.ownsRow_nil _ _ _ _, by simp, hbase, Lib.hid (by simp)⟩
  case round =>
    obtain ⟨j, acc, rfl, hj, hown, hal, hbr, hacc⟩ := hrel
    have hsr : n2 ≤ wr.heap.size := by have := hbr.size; omega
    by_cases hlt : j < n
    · obtain ⟨x, hx⟩ : ∃ x, (rns s.data.toList).getD j 0 = x := ⟨_, rfl⟩
      obtain ⟨b, o, rfl, hbS, hcell⟩ := HQ.out j (.int .i64 (x : Nat)) (by rw [← hx, List.getElem?_map, List.getD_eq_getElem?_getD, List.getElem?_eq_getElem (by rw [HN.out]; exact hlt)]; rfl)
      have hcr : wr.cell? ⟨b, o + j, none⟩ = some (.int .i64 (x : Nat)) := (hbr.cell (p := ⟨b, o + j, none⟩) (by rw [← HN2.out]; exact lt_of_cell hcell)).trans hcell
      have hkr : wr.cell? ⟨w.heap.size, 0, none⟩ = some (.int .i64 k) := (hbr.cell (p := ⟨w.heap.size, 0, none⟩) (by rw [← HN2.out]; exact lt_of_cell hk0)).trans hk0
      have hsc : scal x = true := rns_scal _ HVD.out x (by rw [← hx, List.getD_eq_getElem?_getD, List.getElem?_eq_getElem (by rw [HN.out]; exact hlt)]; exact List.getElem_mem _)
      have hxs : x < 1114112 := by rw [scal_iff] at hsc; omega
      have HX := Lib.hid hx; have HSC := Lib.hid hsc
      have HCL := Lib.hid hcell
      clear hcell hbS hx hsc hk0
      have hjn : (j : Int) < (n : Int) := by omega
      have hj0 : (0 : Int) ≤ (j : Int) := by omega
      go_wp2_with (first | (go_at_call 28; refine (width_any k _).mono ?_; rintro e w3 ⟨rfl, rfl⟩; rw [HW.out]) | (at_builtin; refine wpList_push rfl _ _ 31 rfl byteElem hbr hsr hown rfl rfl rfl ?_ ?_ ?_; (unfold maxLen; omega); omega; rintro v' w5 hown6 hb4 - - - -; clear hown hbr))
      go_roundw
      case rel => exact ⟨j + 1, acc ++ [UInt8.ofNat x], by go_num, by omega, by rw [byteCells_snoc acc x ((x : Int) % 256) rfl, List.length_append, List.length_singleton]; exact hown6, by rw [List.length_append]; have := (show ([UInt8.ofNat x] : List UInt8).length = 1 from rfl); omega, hb4, Lib.hid (by rw [take_flat _ _ _ 0 x (by rw [HN.out]; exact hlt) HX.out, hacc.out]; simp [outC, bigE])⟩
      case measure => simp [intOf]; omega
    · have hjn : ¬ (j : Int) < (n : Int) := by omega
      have hjn2 : j = n := by omega
      have HJ := Lib.hid hjn2; clear hjn2
      go_wp2
      go_ret2
      refine ⟨_, by unfold encC; rw [HV.out]; rfl, ?_, HB0.out.trans (hbr.mono hz1)⟩
      have e : encR k s.data.toList = acc := by
        unfold encR; rw [HV.out, if_pos rfl, ← outC_flat HV.out, HW.out, hacc.out, HJ.out, List.take_of_length_le (by rw [HN.out]; exact Nat.le_refl _)]
      rw [e]
      exact (RdRow.of_owns hown).mono fun b _ h => by have := h.1; omega

set_option maxRecDepth 100000 in
set_option maxHeartbeats 4000000 in
theorem rEnc_2 (k : Int) (s : ByteArray) (hs : s.size ≤ 16777216) (w : World) (hv : validS k s.data.toList = true) (hW : widthS k = 2) :
    Calls Tryd.prog 17 #[.agg #[.int .i64 k, .string s]] w (EncPost k s.data.toList w) := by
  have hvD : validD s.data.toList = true := by have h := hv; unfold validS at h; simp at h; exact h.1.1
  have hR : ptsR s.data.toList = rns s.data.toList := by unfold ptsR; rw [hvD, if_pos rfl]
  obtain ⟨n, hn⟩ : ∃ n : Nat, (rns s.data.toList).length = n := ⟨_, rfl⟩
  have hns : n ≤ 16777216 := by
    have h1 := rns_le _ hvD
    have h2 : s.size = s.data.toList.length := by rw [Array.length_toList]; rfl
    omega
  have HR := Lib.hid hR; have HVD := Lib.hid hvD; have HV := Lib.hid hv; have HN := Lib.hid hn; have HW := Lib.hid hW
  clear hR hvD hv hn hW
  go_enter Tryd.func17, Tryd.ntmps17
  go_wp2_with (first | (go_at_call 11; refine (rValid_any k s hs _).mono ?_; rintro e w1 ⟨rfl, hb⟩; rw [HV.out]; have hc0 : w1.cell? ⟨w.heap.size, 0, none⟩ = some (.int .i64 k) := by { rw [hb.cell (by simp)]; simp }; have hc1 : w1.cell? ⟨w.heap.size, 1, none⟩ = some (.string s) := by { rw [hb.cell (by simp)]; simp }) | (go_at_call 27; refine (Points_any s hs _).mono ?_; rintro e w2 ⟨v, rfl, hrd, hb2⟩; rw [HR.out] at hrd; obtain ⟨a, c, rfl, hq1, hq2, hq3, hq4⟩ := hrd; rw [HN.out] at hq1 hq3 ⊢))
  have hk0 := cell_below hc0 hb2
  have hB0 : Below w.heap.size w w2 := (((Below.refl _ _).alloc (Nat.le_refl _) _).trans (hb.mono (by simp))).trans (hb2.mono (by have := hb.size; simp at this; omega))
  have hz1 : w.heap.size ≤ w2.heap.size := hB0.size
  have HB0 := Lib.hid hB0
  have HQ := Lib.hid hq4
  have hnm : (n : Int) ≤ 9223372036854775807 := by omega
  have hnc : n ≤ c := hq1
  clear hb hb2 hB0 hq1 hq2 hq3 hq4 hc0 hc1
  obtain ⟨n2, hn2⟩ : ∃ n2, w2.heap.size = n2 := ⟨_, rfl⟩
  have HN2 := Lib.hid hn2
  rw [hn2] at hz1; clear hn2
  have hbase : Below n2 w2 w2 := Below.refl _ _
  have hsz2 : n2 ≤ w2.heap.size := Nat.le_of_eq HN2.out.symm
  go_loopw [6, 7] (fun o i wr => ∃ (j : Nat) (acc : List UInt8), i = .int .i64 j ∧ j ≤ n ∧ wr.ownsRow n2 5 1 o acc.length (Lib.byteCells acc) ∧ acc.length ≤ 4 * j ∧ Below n2 w2 wr ∧ Hid (acc = ((rns s.data.toList).take j).flatMap (outC 2)))
    (fun _ i _ => n - (intOf i).toNat)
  case atStart => exact ⟨0, [], rfl, by omega, World.ownsRow_nil _ _ _ _, by simp, hbase, Lib.hid (by simp)⟩
  case round =>
    obtain ⟨j, acc, rfl, hj, hown, hal, hbr, hacc⟩ := hrel
    have hsr : n2 ≤ wr.heap.size := by have := hbr.size; omega
    by_cases hlt : j < n
    · obtain ⟨x, hx⟩ : ∃ x, (rns s.data.toList).getD j 0 = x := ⟨_, rfl⟩
      obtain ⟨b, o, rfl, hbS, hcell⟩ := HQ.out j (.int .i64 (x : Nat)) (by rw [← hx, List.getElem?_map, List.getD_eq_getElem?_getD, List.getElem?_eq_getElem (by rw [HN.out]; exact hlt)]; rfl)
      have hcr : wr.cell? ⟨b, o + j, none⟩ = some (.int .i64 (x : Nat)) := (hbr.cell (p := ⟨b, o + j, none⟩) (by rw [← HN2.out]; exact lt_of_cell hcell)).trans hcell
      have hkr : wr.cell? ⟨w.heap.size, 0, none⟩ = some (.int .i64 k) := (hbr.cell (p := ⟨w.heap.size, 0, none⟩) (by rw [← HN2.out]; exact lt_of_cell hk0)).trans hk0
      have hsc : scal x = true := rns_scal _ HVD.out x (by rw [← hx, List.getD_eq_getElem?_getD, List.getElem?_eq_getElem (by rw [HN.out]; exact hlt)]; exact List.getElem_mem _)
      have hxs : x < 1114112 := by rw [scal_iff] at hsc; omega
      have HX := Lib.hid hx; have HSC := Lib.hid hsc
      have HCL := Lib.hid hcell
      clear hcell hbS hx hsc hk0
      have hjn : (j : Int) < (n : Int) := by omega
      have hj0 : (0 : Int) ≤ (j : Int) := by omega
      have k1 : IntKind.i64.wrap (x : Int) = x := IntWalk.i64_in _ (by omega)
      go_wp2_with (go_at_call 28; refine (width_any k _).mono ?_; rintro e w3 ⟨rfl, rfl⟩; rw [HW.out])
      have k2 : IntKind.i64.wrap ((x : Int) / 256) = (x : Int) / 256 := IntWalk.i64_in _ (by omega)
      have k3 : IntKind.i64.wrap ((x : Int) / 65536) = (x : Int) / 65536 := IntWalk.i64_in _ (by omega)
      have k4 : IntKind.u8.wrap ((x : Int) / 256) = (x : Int) / 256 % 256 := rfl
      have k5 : (x : Int).tmod 256 = (x : Int) % 256 := Int.tmod_eq_emod_of_nonneg (by omega)
      have k6 : ((x : Int) / 256).tmod 256 = (x : Int) / 256 % 256 := Int.tmod_eq_emod_of_nonneg (by omega)
      have k7 : IntKind.u8.wrap ((x : Int) % 256) = (x : Int) % 256 := IntWalk.u8_in _ (by omega)
      have k8 : IntKind.u8.wrap ((x : Int) / 256 % 256) = (x : Int) / 256 % 256 := IntWalk.u8_in _ (by omega)
      have k9 : IntKind.u8.wrap ((x : Int) / 65536) = (x : Int) / 65536 := IntWalk.u8_in _ (by omega)
      go_region_held3 (fun w' => w'.cell? ⟨b, o + j, none⟩ = some (.int .i64 x)) (first | go_keep)
        ((refine step_append_rd (by rfl) _ _ 31 (by rfl) byteElem ((hbr.alloc hsr _).drew) (by simp; omega) (owns_drew (hown.alloc _)) (by rfl) ((rd_at wr 5 2 #[.int .u8 ((x : Int) / 256 % 256), .int .u8 ((x : Int) % 256)] [UInt8.ofNat (x / 256), UInt8.ofNat x] _ (by rfl) (by rfl) (by decide) (by simp [Lib.byteCells] <;> omega)).keep (w' := (wr.alloc _).drew) fun _ _ _ => rfl) (by rfl) (by intro u hu; simp only [Lib.byteCells, List.mem_map] at hu; obtain ⟨y, _, rfl⟩ := hu; rfl) (by unfold maxLen; simp only [List.length_cons, List.length_nil]; omega) (by simp only [List.length_cons, List.length_nil]; omega) ?_; rintro v' w5 hown6 hb4 - - - -; have hd : w5.cell? ⟨b, o + j, none⟩ = some (.int .i64 x) := (hb4.cell (p := ⟨b, o + j, none⟩) (by rw [← HN2.out]; exact lt_of_cell HCL.out)).trans HCL.out))
      clear k1 k2 k3 k4 k5 k6 k7 k8 k9 hown hbr
      go_wp2
      go_roundw
      case rel => exact ⟨j + 1, acc ++ [UInt8.ofNat (x / 256), UInt8.ofNat x], by go_num, by omega, (rd_append_bytes (l := [UInt8.ofNat (x / 256), UInt8.ofNat x]) hown6), by rw [List.length_append]; have := (show ([UInt8.ofNat (x / 256), UInt8.ofNat x] : List UInt8).length = 2 from rfl); omega, hb4, Lib.hid (by rw [take_flat _ _ _ 0 x (by rw [HN.out]; exact hlt) HX.out, hacc.out]; simp [outC, bigE])⟩
      case measure => simp [intOf]; omega
    · have hjn : ¬ (j : Int) < (n : Int) := by omega
      have hjn2 : j = n := by omega
      have HJ := Lib.hid hjn2; clear hjn2
      go_wp2
      go_ret2
      refine ⟨_, by unfold encC; rw [HV.out]; rfl, ?_, HB0.out.trans (hbr.mono hz1)⟩
      have e : encR k s.data.toList = acc := by
        unfold encR; rw [HV.out, if_pos rfl, ← outC_flat HV.out, HW.out, hacc.out, HJ.out, List.take_of_length_le (by rw [HN.out]; exact Nat.le_refl _)]
      rw [e]
      exact (RdRow.of_owns hown).mono fun b _ h => by have := h.1; omega

set_option maxRecDepth 100000 in
set_option maxHeartbeats 4000000 in
theorem rEnc_4 (k : Int) (s : ByteArray) (hs : s.size ≤ 16777216) (w : World) (hv : validS k s.data.toList = true) (hW : widthS k = 4) :
    Calls Tryd.prog 17 #[.agg #[.int .i64 k, .string s]] w (EncPost k s.data.toList w) := by
  have hvD : validD s.data.toList = true := by have h := hv; unfold validS at h; simp at h; exact h.1.1
  have hR : ptsR s.data.toList = rns s.data.toList := by unfold ptsR; rw [hvD, if_pos rfl]
  obtain ⟨n, hn⟩ : ∃ n : Nat, (rns s.data.toList).length = n := ⟨_, rfl⟩
  have hns : n ≤ 16777216 := by
    have h1 := rns_le _ hvD
    have h2 : s.size = s.data.toList.length := by rw [Array.length_toList]; rfl
    omega
  have HR := Lib.hid hR; have HVD := Lib.hid hvD; have HV := Lib.hid hv; have HN := Lib.hid hn; have HW := Lib.hid hW
  clear hR hvD hv hn hW
  go_enter Tryd.func17, Tryd.ntmps17
  go_wp2_with (first | (go_at_call 11; refine (rValid_any k s hs _).mono ?_; rintro e w1 ⟨rfl, hb⟩; rw [HV.out]; have hc0 : w1.cell? ⟨w.heap.size, 0, none⟩ = some (.int .i64 k) := by { rw [hb.cell (by simp)]; simp }; have hc1 : w1.cell? ⟨w.heap.size, 1, none⟩ = some (.string s) := by { rw [hb.cell (by simp)]; simp }) | (go_at_call 27; refine (Points_any s hs _).mono ?_; rintro e w2 ⟨v, rfl, hrd, hb2⟩; rw [HR.out] at hrd; obtain ⟨a, c, rfl, hq1, hq2, hq3, hq4⟩ := hrd; rw [HN.out] at hq1 hq3 ⊢))
  have hk0 := cell_below hc0 hb2
  have hB0 : Below w.heap.size w w2 := (((Below.refl _ _).alloc (Nat.le_refl _) _).trans (hb.mono (by simp))).trans (hb2.mono (by have := hb.size; simp at this; omega))
  have hz1 : w.heap.size ≤ w2.heap.size := hB0.size
  have HB0 := Lib.hid hB0
  have HQ := Lib.hid hq4
  have hnm : (n : Int) ≤ 9223372036854775807 := by omega
  have hnc : n ≤ c := hq1
  clear hb hb2 hB0 hq1 hq2 hq3 hq4 hc0 hc1
  obtain ⟨n2, hn2⟩ : ∃ n2, w2.heap.size = n2 := ⟨_, rfl⟩
  have HN2 := Lib.hid hn2
  rw [hn2] at hz1; clear hn2
  have hbase : Below n2 w2 w2 := Below.refl _ _
  have hsz2 : n2 ≤ w2.heap.size := Nat.le_of_eq HN2.out.symm
  go_loopw [6, 7] (fun o i wr => ∃ (j : Nat) (acc : List UInt8), i = .int .i64 j ∧ j ≤ n ∧ wr.ownsRow n2 5 1 o acc.length (Lib.byteCells acc) ∧ acc.length ≤ 4 * j ∧ Below n2 w2 wr ∧ Hid (acc = ((rns s.data.toList).take j).flatMap (outC 4)))
    (fun _ i _ => n - (intOf i).toNat)
  case atStart => exact ⟨0, [], rfl, by omega, World.ownsRow_nil _ _ _ _, by simp, hbase, Lib.hid (by simp)⟩
  case round =>
    obtain ⟨j, acc, rfl, hj, hown, hal, hbr, hacc⟩ := hrel
    have hsr : n2 ≤ wr.heap.size := by have := hbr.size; omega
    by_cases hlt : j < n
    · obtain ⟨x, hx⟩ : ∃ x, (rns s.data.toList).getD j 0 = x := ⟨_, rfl⟩
      obtain ⟨b, o, rfl, hbS, hcell⟩ := HQ.out j (.int .i64 (x : Nat)) (by rw [← hx, List.getElem?_map, List.getD_eq_getElem?_getD, List.getElem?_eq_getElem (by rw [HN.out]; exact hlt)]; rfl)
      have hcr : wr.cell? ⟨b, o + j, none⟩ = some (.int .i64 (x : Nat)) := (hbr.cell (p := ⟨b, o + j, none⟩) (by rw [← HN2.out]; exact lt_of_cell hcell)).trans hcell
      have hkr : wr.cell? ⟨w.heap.size, 0, none⟩ = some (.int .i64 k) := (hbr.cell (p := ⟨w.heap.size, 0, none⟩) (by rw [← HN2.out]; exact lt_of_cell hk0)).trans hk0
      have hsc : scal x = true := rns_scal _ HVD.out x (by rw [← hx, List.getD_eq_getElem?_getD, List.getElem?_eq_getElem (by rw [HN.out]; exact hlt)]; exact List.getElem_mem _)
      have hxs : x < 1114112 := by rw [scal_iff] at hsc; omega
      have HX := Lib.hid hx; have HSC := Lib.hid hsc
      have HCL := Lib.hid hcell
      clear hcell hbS hx hsc hk0
      have hjn : (j : Int) < (n : Int) := by omega
      have hj0 : (0 : Int) ≤ (j : Int) := by omega
      have k1 : IntKind.i64.wrap (x : Int) = x := IntWalk.i64_in _ (by omega)
      go_wp2_with (go_at_call 28; refine (width_any k _).mono ?_; rintro e w3 ⟨rfl, rfl⟩; rw [HW.out])
      have k2 : IntKind.i64.wrap ((x : Int) / 256) = (x : Int) / 256 := IntWalk.i64_in _ (by omega)
      have k3 : IntKind.i64.wrap ((x : Int) / 65536) = (x : Int) / 65536 := IntWalk.i64_in _ (by omega)
      have k4 : IntKind.u8.wrap ((x : Int) / 256) = (x : Int) / 256 % 256 := rfl
      have k5 : (x : Int).tmod 256 = (x : Int) % 256 := Int.tmod_eq_emod_of_nonneg (by omega)
      have k6 : ((x : Int) / 256).tmod 256 = (x : Int) / 256 % 256 := Int.tmod_eq_emod_of_nonneg (by omega)
      have k7 : IntKind.u8.wrap ((x : Int) % 256) = (x : Int) % 256 := IntWalk.u8_in _ (by omega)
      have k8 : IntKind.u8.wrap ((x : Int) / 256 % 256) = (x : Int) / 256 % 256 := IntWalk.u8_in _ (by omega)
      have k9 : IntKind.u8.wrap ((x : Int) / 65536) = (x : Int) / 65536 := IntWalk.u8_in _ (by omega)
      go_region_held3 (fun w' => w'.cell? ⟨b, o + j, none⟩ = some (.int .i64 x)) (first | go_keep)
        ((refine step_append_rd (by rfl) _ _ 31 (by rfl) byteElem ((hbr.alloc hsr _).drew) (by simp; omega) (owns_drew (hown.alloc _)) (by rfl) ((rd_at wr 5 4 #[.int .u8 0, .int .u8 ((x : Int) / 65536), .int .u8 ((x : Int) / 256 % 256), .int .u8 ((x : Int) % 256)] [0, UInt8.ofNat (x / 65536), UInt8.ofNat (x / 256), UInt8.ofNat x] _ (by rfl) (by rfl) (by decide) (by simp [Lib.byteCells] <;> omega)).keep (w' := (wr.alloc _).drew) fun _ _ _ => rfl) (by rfl) (by intro u hu; simp only [Lib.byteCells, List.mem_map] at hu; obtain ⟨y, _, rfl⟩ := hu; rfl) (by unfold maxLen; simp only [List.length_cons, List.length_nil]; omega) (by simp only [List.length_cons, List.length_nil]; omega) ?_; rintro v' w5 hown6 hb4 - - - -; have hd : w5.cell? ⟨b, o + j, none⟩ = some (.int .i64 x) := (hb4.cell (p := ⟨b, o + j, none⟩) (by rw [← HN2.out]; exact lt_of_cell HCL.out)).trans HCL.out))
      clear k1 k2 k3 k4 k5 k6 k7 k8 k9 hown hbr
      go_wp2
      go_roundw
      case rel => exact ⟨j + 1, acc ++ [0, UInt8.ofNat (x / 65536), UInt8.ofNat (x / 256), UInt8.ofNat x], by go_num, by omega, (rd_append_bytes (l := [0, UInt8.ofNat (x / 65536), UInt8.ofNat (x / 256), UInt8.ofNat x]) hown6), by rw [List.length_append]; have := (show ([0, UInt8.ofNat (x / 65536), UInt8.ofNat (x / 256), UInt8.ofNat x] : List UInt8).length = 4 from rfl); omega, hb4, Lib.hid (by rw [take_flat _ _ _ 0 x (by rw [HN.out]; exact hlt) HX.out, hacc.out]; simp [outC, bigE, show x / 16777216 = 0 from by omega])⟩
      case measure => simp [intOf]; omega
    · have hjn : ¬ (j : Int) < (n : Int) := by omega
      have hjn2 : j = n := by omega
      have HJ := Lib.hid hjn2; clear hjn2
      go_wp2
      go_ret2
      refine ⟨_, by unfold encC; rw [HV.out]; rfl, ?_, HB0.out.trans (hbr.mono hz1)⟩
      have e : encR k s.data.toList = acc := by
        unfold encR; rw [HV.out, if_pos rfl, ← outC_flat HV.out, HW.out, hacc.out, HJ.out, List.take_of_length_le (by rw [HN.out]; exact Nat.le_refl _)]
      rw [e]
      exact (RdRow.of_owns hown).mono fun b _ h => by have := h.1; omega

theorem rEncode_any (k : Int) (s : ByteArray) (hs : s.size ≤ 16777216) (w : World) :
    Calls Tryd.prog 17 #[.agg #[.int .i64 k, .string s]] w (EncPost k s.data.toList w) := by
  rcases Bool.eq_false_or_eq_true (validS k s.data.toList) with h | h
  · have hW : ¬ widthS k < 0 := by unfold validS at h; simp at h; omega
    rcases width_cases k hW with h1 | h1 | h1 | h1 | h1 | h1 | h1
    · exact rEnc_0 k s hs w h (by rw [h1]; rfl)
    · exact rEnc_1 k s hs w h (by rw [h1]; rfl)
    · exact rEnc_1 k s hs w h (by rw [h1]; rfl)
    · exact rEnc_1 k s hs w h (by rw [h1]; rfl)
    · exact rEnc_1 k s hs w h (by rw [h1]; rfl)
    · exact rEnc_4 k s hs w h (by rw [h1]; rfl)
    · exact rEnc_2 k s hs w h (by rw [h1]; rfl)
  · exact rEnc_bad k s hs w h

end Go.Proofs.YtafconpneeggiaaDoor
