/- The walk of the reference's Decode. Contents octets of at most 1000000 bytes. -/
import Derived.Test.YtafconpneeggiaaDoorRefEnc
namespace Go.Proofs.YtafconpneeggiaaDoor
open Go.RowKit
open Go.Lib (validD decodeL)

/-- The number that k octets from place i on stand for. -/
def numAt (c : List UInt8) (i : Nat) : Nat → Nat
  | 0 => 0
  | k + 1 => numAt c i k * 256 + (c.getD (i + k) 0).toNat
/-- What j units of W octets stand for. -/
def unitsTo (W : Nat) (c : List UInt8) (j : Nat) : List UInt8 := (List.range j).flatMap fun q => octs (numAt c (q * W) W)
/-- The characters of contents octets. -/
def decB (k : Int) (c : List UInt8) : List UInt8 := if widthS k = 0 then c else unitsTo (widthS k).toNat c (c.length / (widthS k).toNat)
/-- They are those of the characters. -/
def okD (k : Int) (c : List UInt8) : Bool := validS k (decB k c) && (encS k (decB k c) == c)
def decK (k : Int) (c : List UInt8) : Int := if widthS k < 0 then 0 else if okD k c then k else 0
def decV (k : Int) (c : List UInt8) : List UInt8 := if widthS k < 0 then [] else if okD k c then decB k c else []
def decC (k : Int) (c : List UInt8) : Int := if widthS k < 0 then 3 else if okD k c then 0 else 6
def DecPost (k : Int) (c : List UInt8) (w : World) (e : Ending) (w' : World) : Prop :=
  e = .returned (.tuple #[.agg #[.int .i64 (decK k c), .string ⟨(decV k c).toArray⟩], .int .i64 (decC k c)]) ∧ Below w.heap.size w w'

theorem numAt_lt (c : List UInt8) (i : Nat) : ∀ k, numAt c i k < 256 ^ k
  | 0 => by simp [numAt]
  | k + 1 => by
    have := numAt_lt c i k
    have h2 := (c.getD (i + k) 0).toNat_lt
    simp only [numAt, Nat.pow_succ]
    omega
theorem octs_len4 (x : Nat) : (octs x).length ≤ 4 := by
  unfold octs
  split
  · exact (enc_len x).2
  · simp
theorem unitsTo_succ (W : Nat) (c : List UInt8) (j : Nat) : unitsTo W c (j + 1) = unitsTo W c j ++ octs (numAt c (j * W) W) := by
  unfold unitsTo; rw [List.range_succ, List.flatMap_append]; simp
theorem unitsTo_len (W : Nat) (c : List UInt8) : ∀ j, (unitsTo W c j).length ≤ 4 * j
  | 0 => by simp [unitsTo]
  | j + 1 => by
    rw [unitsTo_succ, List.length_append]
    have := unitsTo_len W c j
    have := octs_len4 (numAt c (j * W) W)
    omega

set_option maxRecDepth 100000 in
set_option maxHeartbeats 4000000 in
theorem rDec_neg (k : Int) (S : Nat → Prop) (v : Value) (c : List UInt8) (w : World) (hrd : RdBytes S w v c) (hk : widthS k < 0) :
    Calls Tryd.prog 14 #[.int .i64 k, v] w (DecPost k c w) := by
  have d : decide (widthS k < 0) = true := by rw [decide_eq_true_iff]; exact hk
  have HK := Lib.hid hk; clear hk
  obtain ⟨W, hW⟩ : ∃ W, widthS k = W := ⟨_, rfl⟩
  rw [hW] at d
  have HW := Lib.hid hW; clear hW
  go_enter Tryd.func14, Tryd.ntmps14
  go_wp2_with (go_at_call 28; refine (width_any k _).mono ?_; rintro e w3 ⟨rfl, rfl⟩; rw [HW.out])
  refine ret_two Tryd.results14 ⟨_, rfl, loadVar_cells _ _ _ 0 [.int .i64 0, .string ⟨#[]⟩] _ Tryd.underlying23 rfl (by kernel_rfl) (cells2 ?_ ?_)⟩ rfl rfl ⟨by unfold decK decV decC; simp [HK.out], ?_⟩
  · simp [go_sem]
  · simp [go_sem]
  · exact (Below.refl _ _).alloc (Nat.le_refl _) _

theorem decB_len (k : Int) (c : List UInt8) (h : c.length ≤ 1000000) : (decB k c).length ≤ 4000000 := by
  unfold decB
  split
  · omega
  · refine Nat.le_trans (unitsTo_len _ _ _) ?_
    have := Nat.div_le_self c.length (widthS k).toNat
    omega

set_option maxRecDepth 100000 in
set_option maxHeartbeats 4000000 in
theorem rDec_0A (k : Int) (S : Nat → Prop) (v : Value) (c : List UInt8) (w : World) (hrd : RdBytes S w v c) (hs : c.length ≤ 1000000) (hk : widthS k = 0) (L : List UInt8) (hL : decB k c = L) (h1 : validS k L = true) (h2 : encS k L = c) :
    Calls Tryd.prog 14 #[.int .i64 k, v] w (DecPost k c w) := by
  have hok : okD k c = true := by unfold okD; rw [hL]; simp [h1, h2]
  have hLs : L.length ≤ 4000000 := by rw [← hL]; exact decB_len k c hs
  obtain ⟨E, hE⟩ : ∃ E, encR k L = E := ⟨_, rfl⟩
  obtain ⟨Cc, hCc⟩ : ∃ Cc, encC k L = Cc := ⟨_, rfl⟩
  have hCv : Cc = 0 := by rw [← hCc]; unfold encC; rw [h1]; rfl
  subst hCv
  have hEe : (E == c) = true := by rw [← hE]; unfold encR; rw [h1, if_pos rfl]; simp [h2]
  have hdL : decB k c = L := hL
  have HOK := Lib.hid hok; have HE := Lib.hid hE; have HCC := Lib.hid hCc; have HK := Lib.hid hk; have HL := Lib.hid hdL; have HEE := Lib.hid hEe; have H2 := Lib.hid h2
  clear hok hE hCc hk hL hdL hEe h2
  obtain ⟨a, cp, rfl, hq1, hq2, hq3, hq4⟩ := hrd
  obtain ⟨n, hn⟩ : ∃ n, c.length = n := ⟨_, rfl⟩
  rw [hn] at hq1 hq3 hs ⊢
  have HN := Lib.hid hn; have HQ := Lib.hid hq4; have HQ3 := Lib.hid hq3
  clear hn hq4 hq3
  have hnm : (n : Int) ≤ 9223372036854775807 := by omega
  have hrd0 : RdBytes S w (.slice a n cp) c := ⟨a, cp, by rw [HN.out], by rw [HN.out]; exact hq1, hq2, by rw [HN.out]; exact HQ3.out, HQ.out⟩
  have HRD := Lib.hid hrd0; clear hrd0
  go_enter Tryd.func14, Tryd.ntmps14
  go_wp2_with (first | (go_at_call 28; refine (width_any k _).mono ?_; rintro e w3 ⟨rfl, rfl⟩; rw [HK.out]) | (at_builtin; refine wpList_append_rd rfl _ _ 31 rfl byteElem (Below.refl (w.heap.size + 1) _) (by simp) (World.ownsRow_nil _ _ _ _) rfl (HRD.out.below ((Below.refl _ _).alloc (Nat.le_refl _) _)) rfl ?_ ?_ ?_ ?_; (intro u hu; simp only [Lib.byteCells, List.mem_map] at hu; obtain ⟨y, _, rfl⟩ := hu; rfl); (have := HN.out; unfold maxLen; omega); (have := HN.out; omega); rintro v' wr hown hbr - - - -))
  obtain ⟨W0, hW0⟩ : ∃ W0, w.alloc (.cells #[.int .i64 0, .string { data := #[] }] 23) = W0 := ⟨_, rfl⟩
  rw [hW0] at hbr
  have hb0 : Below w.heap.size w W0 := by rw [← hW0]; exact (Below.refl _ _).alloc (Nat.le_refl _) _
  have hz0 : W0.heap.size = w.heap.size + 1 := by rw [← hW0]; simp
  have c0 : W0.cell? ⟨w.heap.size, 0, none⟩ = some (.int .i64 0) := by rw [← hW0]; simp [go_sem]
  have c1 : W0.cell? ⟨w.heap.size, 1, none⟩ = some (.string { data := #[] }) := by rw [← hW0]; simp [go_sem]
  have z0 : W0.frozen? ⟨w.heap.size, 0, none⟩ = false := by rw [← hW0]; simp [go_sem]
  have z1 : W0.frozen? ⟨w.heap.size, 1, none⟩ = false := by rw [← hW0]; simp [go_sem]
  clear hW0
  have HC := Lib.hid (And.intro c0 (And.intro c1 (And.intro z0 z1)))
  clear c0 c1 z0 z1
  obtain ⟨N0, hN0⟩ : ∃ N0, w.heap.size + 1 = N0 := ⟨_, rfl⟩
  rw [hN0] at hz0 hbr hown
  have hsz : N0 ≤ wr.heap.size := by have := hbr.size; omega
  have HN0 := Lib.hid hN0; have HB0 := Lib.hid hb0
  clear hz0 hN0 hb0
  obtain ⟨U, hU⟩ : ∃ U, U = c := ⟨_, rfl⟩
  have hul : U.length ≤ 1000000 := by rw [hU, HN.out]; exact hs
  have hown2 : wr.ownsRow N0 5 1 v' U.length (Lib.byteCells U) := by rw [hU]; simpa using hown
  have hUL : U = L := by rw [← HL.out, hU]; unfold decB; rw [HK.out, if_pos rfl]
  have HUc := Lib.hid hU
  clear hown hU
  have hown := hown2; clear hown2
  subst hUL
  have hcv := RdBytes.string (P := Tryd.prog) (RdRow.of_owns hown) 31 9 5 Tryd.underlying31 Tryd.underlying5 Tryd.underlying9
  obtain ⟨oa, oc, rfl⟩ := owns_shape hown
  go_wp2
  refine wp_loop_rounds 1 ?_; rw [rounds_succ]
  have hbw : Below w.heap.size w wr := HB0.out.trans (hbr.mono (by have := HN0.out; omega))
  have hUs : (⟨U.toArray⟩ : ByteArray).size ≤ 16777216 := by rw [show (⟨U.toArray⟩ : ByteArray).size = U.length from by simp [ByteArray.size]]; omega
  have HUS := Lib.hid hUs; have HBW := Lib.hid hbw; have HBR := Lib.hid hbr; have HUL := Lib.hid hul
  have hzw : w.heap.size < wr.heap.size := by have := HN0.out; omega
  clear hUs hbw hbr hul hown
  go_wp2_with fail
  refine (rEncode_any k ⟨U.toArray⟩ HUS.out _).mono ?_
  rintro e w5 ⟨vb, rfl, rb, hb⟩
  rw [show (⟨U.toArray⟩ : ByteArray).data.toList = U from by simp, HCC.out]
  rw [show (⟨U.toArray⟩ : ByteArray).data.toList = U from by simp, HE.out] at rb
  have r0 : w5.cell? ⟨w.heap.size, 0, none⟩ = some (.int .i64 0) := (hb.cell (p := ⟨w.heap.size, 0, none⟩) (by simp; omega)).trans ((World.cell?_alloc_past _ _ _ hzw).trans ((HBR.out.cell (p := ⟨w.heap.size, 0, none⟩) (by have := HN0.out; simp only []; omega)).trans HC.out.1))
  have r1 : w5.cell? ⟨w.heap.size, 1, none⟩ = some (.string { data := #[] }) := (hb.cell (p := ⟨w.heap.size, 1, none⟩) (by simp; omega)).trans ((World.cell?_alloc_past _ _ _ hzw).trans ((HBR.out.cell (p := ⟨w.heap.size, 1, none⟩) (by have := HN0.out; simp only []; omega)).trans HC.out.2.1))
  have q0 : w5.frozen? ⟨w.heap.size, 0, none⟩ = false := (hb.frozen (p := ⟨w.heap.size, 0, none⟩) (by simp; omega)).trans ((World.frozen?_alloc_past _ _ _ hzw).trans ((HBR.out.frozen (p := ⟨w.heap.size, 0, none⟩) (by have := HN0.out; simp only []; omega)).trans HC.out.2.2.1))
  have q1 : w5.frozen? ⟨w.heap.size, 1, none⟩ = false := (hb.frozen (p := ⟨w.heap.size, 1, none⟩) (by simp; omega)).trans ((World.frozen?_alloc_past _ _ _ hzw).trans ((HBR.out.frozen (p := ⟨w.heap.size, 1, none⟩) (by have := HN0.out; simp only []; omega)).trans HC.out.2.2.2))
  have t0 : w5.cell? ⟨wr.heap.size, 0, none⟩ = some (.int .i64 k) := (hb.cell (p := ⟨wr.heap.size, 0, none⟩) (by simp)).trans (by simp [go_sem])
  have t1 : w5.cell? ⟨wr.heap.size, 1, none⟩ = some (.string ⟨U.toArray⟩) := (hb.cell (p := ⟨wr.heap.size, 1, none⟩) (by simp)).trans (by simp [go_sem])
  have hb5 : Below w.heap.size w w5 := (HBW.out.alloc (by omega) _).trans (hb.mono (by simp; omega))
  have HB5 := Lib.hid hb5; have hz5 := lt_of_cell r0; have RB := Lib.hid rb
  clear hb hb5 rb hzw
  go_wp2_with fail
  refine (Bytes_any _ _ _ _ _ E c RB.out (HRD.out.below HB5.out)).mono ?_
  rintro e w6 ⟨rfl, rfl⟩
  rw [HEE.out]
  go_wp2
  have hts := two_stored r0 r1 (.int .i64 k) (.string ⟨U.toArray⟩)
  refine ret_two Tryd.results14 ⟨_, rfl, loadVar_cells _ _ _ 0 [.int .i64 k, .string ⟨U.toArray⟩] _ Tryd.underlying23 rfl (by kernel_rfl) (cells2 hts.1 hts.2)⟩ rfl rfl ⟨?_, ?_⟩
  · unfold decK decV decC; simp [HK.out, HOK.out, HL.out]
  · exact (by (repeat (first | exact HB5.out | refine Below.setCell ?_ ?_ _ | refine Below.alloc ?_ ?_ _ | refine Below.drew ?_)) <;> first | omega | (simp; done) | (simp; omega))

set_option maxRecDepth 100000 in
set_option maxHeartbeats 4000000 in
theorem rDec_0B (k : Int) (S : Nat → Prop) (v : Value) (c : List UInt8) (w : World) (hrd : RdBytes S w v c) (hs : c.length ≤ 1000000) (hk : widthS k = 0) (L : List UInt8) (hL : decB k c = L) (h1 : validS k L = true) (h2 : encS k L ≠ c) :
    Calls Tryd.prog 14 #[.int .i64 k, v] w (DecPost k c w) := by
  have hok : okD k c = false := by unfold okD; rw [hL]; simp [h1, h2]
  have hLs : L.length ≤ 4000000 := by rw [← hL]; exact decB_len k c hs
  obtain ⟨E, hE⟩ : ∃ E, encR k L = E := ⟨_, rfl⟩
  obtain ⟨Cc, hCc⟩ : ∃ Cc, encC k L = Cc := ⟨_, rfl⟩
  have hCv : Cc = 0 := by rw [← hCc]; unfold encC; rw [h1]; rfl
  subst hCv
  have hEe : (E == c) = false := by rw [← hE]; unfold encR; rw [h1, if_pos rfl]; simp [h2]
  have hdL : decB k c = L := hL
  have HOK := Lib.hid hok; have HE := Lib.hid hE; have HCC := Lib.hid hCc; have HK := Lib.hid hk; have HL := Lib.hid hdL; have HEE := Lib.hid hEe; have H2 := Lib.hid h2
  clear hok hE hCc hk hL hdL hEe h2
  obtain ⟨a, cp, rfl, hq1, hq2, hq3, hq4⟩ := hrd
  obtain ⟨n, hn⟩ : ∃ n, c.length = n := ⟨_, rfl⟩
  rw [hn] at hq1 hq3 hs ⊢
  have HN := Lib.hid hn; have HQ := Lib.hid hq4; have HQ3 := Lib.hid hq3
  clear hn hq4 hq3
  have hnm : (n : Int) ≤ 9223372036854775807 := by omega
  have hrd0 : RdBytes S w (.slice a n cp) c := ⟨a, cp, by rw [HN.out], by rw [HN.out]; exact hq1, hq2, by rw [HN.out]; exact HQ3.out, HQ.out⟩
  have HRD := Lib.hid hrd0; clear hrd0
  go_enter Tryd.func14, Tryd.ntmps14
  go_wp2_with (first | (go_at_call 28; refine (width_any k _).mono ?_; rintro e w3 ⟨rfl, rfl⟩; rw [HK.out]) | (at_builtin; refine wpList_append_rd rfl _ _ 31 rfl byteElem (Below.refl (w.heap.size + 1) _) (by simp) (World.ownsRow_nil _ _ _ _) rfl (HRD.out.below ((Below.refl _ _).alloc (Nat.le_refl _) _)) rfl ?_ ?_ ?_ ?_; (intro u hu; simp only [Lib.byteCells, List.mem_map] at hu; obtain ⟨y, _, rfl⟩ := hu; rfl); (have := HN.out; unfold maxLen; omega); (have := HN.out; omega); rintro v' wr hown hbr - - - -))
  obtain ⟨W0, hW0⟩ : ∃ W0, w.alloc (.cells #[.int .i64 0, .string { data := #[] }] 23) = W0 := ⟨_, rfl⟩
  rw [hW0] at hbr
  have hb0 : Below w.heap.size w W0 := by rw [← hW0]; exact (Below.refl _ _).alloc (Nat.le_refl _) _
  have hz0 : W0.heap.size = w.heap.size + 1 := by rw [← hW0]; simp
  have c0 : W0.cell? ⟨w.heap.size, 0, none⟩ = some (.int .i64 0) := by rw [← hW0]; simp [go_sem]
  have c1 : W0.cell? ⟨w.heap.size, 1, none⟩ = some (.string { data := #[] }) := by rw [← hW0]; simp [go_sem]
  have z0 : W0.frozen? ⟨w.heap.size, 0, none⟩ = false := by rw [← hW0]; simp [go_sem]
  have z1 : W0.frozen? ⟨w.heap.size, 1, none⟩ = false := by rw [← hW0]; simp [go_sem]
  clear hW0
  have HC := Lib.hid (And.intro c0 (And.intro c1 (And.intro z0 z1)))
  clear c0 c1 z0 z1
  obtain ⟨N0, hN0⟩ : ∃ N0, w.heap.size + 1 = N0 := ⟨_, rfl⟩
  rw [hN0] at hz0 hbr hown
  have hsz : N0 ≤ wr.heap.size := by have := hbr.size; omega
  have HN0 := Lib.hid hN0; have HB0 := Lib.hid hb0
  clear hz0 hN0 hb0
  obtain ⟨U, hU⟩ : ∃ U, U = c := ⟨_, rfl⟩
  have hul : U.length ≤ 1000000 := by rw [hU, HN.out]; exact hs
  have hown2 : wr.ownsRow N0 5 1 v' U.length (Lib.byteCells U) := by rw [hU]; simpa using hown
  have hUL : U = L := by rw [← HL.out, hU]; unfold decB; rw [HK.out, if_pos rfl]
  have HUc := Lib.hid hU
  clear hown hU
  have hown := hown2; clear hown2
  subst hUL
  have hcv := RdBytes.string (P := Tryd.prog) (RdRow.of_owns hown) 31 9 5 Tryd.underlying31 Tryd.underlying5 Tryd.underlying9
  obtain ⟨oa, oc, rfl⟩ := owns_shape hown
  go_wp2
  refine wp_loop_rounds 1 ?_; rw [rounds_succ]
  have hbw : Below w.heap.size w wr := HB0.out.trans (hbr.mono (by have := HN0.out; omega))
  have hUs : (⟨U.toArray⟩ : ByteArray).size ≤ 16777216 := by rw [show (⟨U.toArray⟩ : ByteArray).size = U.length from by simp [ByteArray.size]]; omega
  have HUS := Lib.hid hUs; have HBW := Lib.hid hbw; have HBR := Lib.hid hbr; have HUL := Lib.hid hul
  have hzw : w.heap.size < wr.heap.size := by have := HN0.out; omega
  clear hUs hbw hbr hul hown
  go_wp2_with fail
  refine (rEncode_any k ⟨U.toArray⟩ HUS.out _).mono ?_
  rintro e w5 ⟨vb, rfl, rb, hb⟩
  rw [show (⟨U.toArray⟩ : ByteArray).data.toList = U from by simp, HCC.out]
  rw [show (⟨U.toArray⟩ : ByteArray).data.toList = U from by simp, HE.out] at rb
  have r0 : w5.cell? ⟨w.heap.size, 0, none⟩ = some (.int .i64 0) := (hb.cell (p := ⟨w.heap.size, 0, none⟩) (by simp; omega)).trans ((World.cell?_alloc_past _ _ _ hzw).trans ((HBR.out.cell (p := ⟨w.heap.size, 0, none⟩) (by have := HN0.out; simp only []; omega)).trans HC.out.1))
  have r1 : w5.cell? ⟨w.heap.size, 1, none⟩ = some (.string { data := #[] }) := (hb.cell (p := ⟨w.heap.size, 1, none⟩) (by simp; omega)).trans ((World.cell?_alloc_past _ _ _ hzw).trans ((HBR.out.cell (p := ⟨w.heap.size, 1, none⟩) (by have := HN0.out; simp only []; omega)).trans HC.out.2.1))
  have q0 : w5.frozen? ⟨w.heap.size, 0, none⟩ = false := (hb.frozen (p := ⟨w.heap.size, 0, none⟩) (by simp; omega)).trans ((World.frozen?_alloc_past _ _ _ hzw).trans ((HBR.out.frozen (p := ⟨w.heap.size, 0, none⟩) (by have := HN0.out; simp only []; omega)).trans HC.out.2.2.1))
  have q1 : w5.frozen? ⟨w.heap.size, 1, none⟩ = false := (hb.frozen (p := ⟨w.heap.size, 1, none⟩) (by simp; omega)).trans ((World.frozen?_alloc_past _ _ _ hzw).trans ((HBR.out.frozen (p := ⟨w.heap.size, 1, none⟩) (by have := HN0.out; simp only []; omega)).trans HC.out.2.2.2))
  have t0 : w5.cell? ⟨wr.heap.size, 0, none⟩ = some (.int .i64 k) := (hb.cell (p := ⟨wr.heap.size, 0, none⟩) (by simp)).trans (by simp [go_sem])
  have t1 : w5.cell? ⟨wr.heap.size, 1, none⟩ = some (.string ⟨U.toArray⟩) := (hb.cell (p := ⟨wr.heap.size, 1, none⟩) (by simp)).trans (by simp [go_sem])
  have hb5 : Below w.heap.size w w5 := (HBW.out.alloc (by omega) _).trans (hb.mono (by simp; omega))
  have HB5 := Lib.hid hb5; have hz5 := lt_of_cell r0; have RB := Lib.hid rb
  clear hb hb5 rb hzw
  go_wp2_with fail
  refine (Bytes_any _ _ _ _ _ E c RB.out (HRD.out.below HB5.out)).mono ?_
  rintro e w6 ⟨rfl, rfl⟩
  rw [HEE.out]
  go_wp2
  have hts := two_stored r0 r1 (.int .i64 0) (.string { data := #[] })
  refine ret_two Tryd.results14 ⟨_, rfl, loadVar_cells _ _ _ 0 [.int .i64 0, .string { data := #[] }] _ Tryd.underlying23 rfl (by kernel_rfl) (cells2 hts.1 hts.2)⟩ rfl rfl ⟨?_, ?_⟩
  · unfold decK decV decC; simp [HK.out, HOK.out]
  · exact (by (repeat (first | exact HB5.out | refine Below.setCell ?_ ?_ _ | refine Below.alloc ?_ ?_ _ | refine Below.drew ?_)) <;> first | omega | (simp; done) | (simp; omega))

set_option maxRecDepth 100000 in
set_option maxHeartbeats 4000000 in
theorem rDec_0C (k : Int) (S : Nat → Prop) (v : Value) (c : List UInt8) (w : World) (hrd : RdBytes S w v c) (hs : c.length ≤ 1000000) (hk : widthS k = 0) (L : List UInt8) (hL : decB k c = L) (h1 : validS k L = false) :
    Calls Tryd.prog 14 #[.int .i64 k, v] w (DecPost k c w) := by
  have hok : okD k c = false := by unfold okD; rw [hL]; simp [h1]
  have hLs : L.length ≤ 4000000 := by rw [← hL]; exact decB_len k c hs
  obtain ⟨E, hE⟩ : ∃ E, encR k L = E := ⟨_, rfl⟩
  obtain ⟨Cc, hCc⟩ : ∃ Cc, encC k L = Cc := ⟨_, rfl⟩
  have hCv : Cc = 8 := by rw [← hCc]; unfold encC; rw [h1]; rfl
  subst hCv
  have hdL : decB k c = L := hL
  have HOK := Lib.hid hok; have HE := Lib.hid hE; have HCC := Lib.hid hCc; have HK := Lib.hid hk; have HL := Lib.hid hdL
  clear hok hE hCc hk hL hdL
  obtain ⟨a, cp, rfl, hq1, hq2, hq3, hq4⟩ := hrd
  obtain ⟨n, hn⟩ : ∃ n, c.length = n := ⟨_, rfl⟩
  rw [hn] at hq1 hq3 hs ⊢
  have HN := Lib.hid hn; have HQ := Lib.hid hq4; have HQ3 := Lib.hid hq3
  clear hn hq4 hq3
  have hnm : (n : Int) ≤ 9223372036854775807 := by omega
  have hrd0 : RdBytes S w (.slice a n cp) c := ⟨a, cp, by rw [HN.out], by rw [HN.out]; exact hq1, hq2, by rw [HN.out]; exact HQ3.out, HQ.out⟩
  have HRD := Lib.hid hrd0; clear hrd0
  go_enter Tryd.func14, Tryd.ntmps14
  go_wp2_with (first | (go_at_call 28; refine (width_any k _).mono ?_; rintro e w3 ⟨rfl, rfl⟩; rw [HK.out]) | (at_builtin; refine wpList_append_rd rfl _ _ 31 rfl byteElem (Below.refl (w.heap.size + 1) _) (by simp) (World.ownsRow_nil _ _ _ _) rfl (HRD.out.below ((Below.refl _ _).alloc (Nat.le_refl _) _)) rfl ?_ ?_ ?_ ?_; (intro u hu; simp only [Lib.byteCells, List.mem_map] at hu; obtain ⟨y, _, rfl⟩ := hu; rfl); (have := HN.out; unfold maxLen; omega); (have := HN.out; omega); rintro v' wr hown hbr - - - -))
  obtain ⟨W0, hW0⟩ : ∃ W0, w.alloc (.cells #[.int .i64 0, .string { data := #[] }] 23) = W0 := ⟨_, rfl⟩
  rw [hW0] at hbr
  have hb0 : Below w.heap.size w W0 := by rw [← hW0]; exact (Below.refl _ _).alloc (Nat.le_refl _) _
  have hz0 : W0.heap.size = w.heap.size + 1 := by rw [← hW0]; simp
  have c0 : W0.cell? ⟨w.heap.size, 0, none⟩ = some (.int .i64 0) := by rw [← hW0]; simp [go_sem]
  have c1 : W0.cell? ⟨w.heap.size, 1, none⟩ = some (.string { data := #[] }) := by rw [← hW0]; simp [go_sem]
  have z0 : W0.frozen? ⟨w.heap.size, 0, none⟩ = false := by rw [← hW0]; simp [go_sem]
  have z1 : W0.frozen? ⟨w.heap.size, 1, none⟩ = false := by rw [← hW0]; simp [go_sem]
  clear hW0
  have HC := Lib.hid (And.intro c0 (And.intro c1 (And.intro z0 z1)))
  clear c0 c1 z0 z1
  obtain ⟨N0, hN0⟩ : ∃ N0, w.heap.size + 1 = N0 := ⟨_, rfl⟩
  rw [hN0] at hz0 hbr hown
  have hsz : N0 ≤ wr.heap.size := by have := hbr.size; omega
  have HN0 := Lib.hid hN0; have HB0 := Lib.hid hb0
  clear hz0 hN0 hb0
  obtain ⟨U, hU⟩ : ∃ U, U = c := ⟨_, rfl⟩
  have hul : U.length ≤ 1000000 := by rw [hU, HN.out]; exact hs
  have hown2 : wr.ownsRow N0 5 1 v' U.length (Lib.byteCells U) := by rw [hU]; simpa using hown
  have hUL : U = L := by rw [← HL.out, hU]; unfold decB; rw [HK.out, if_pos rfl]
  have HUc := Lib.hid hU
  clear hown hU
  have hown := hown2; clear hown2
  subst hUL
  have hcv := RdBytes.string (P := Tryd.prog) (RdRow.of_owns hown) 31 9 5 Tryd.underlying31 Tryd.underlying5 Tryd.underlying9
  obtain ⟨oa, oc, rfl⟩ := owns_shape hown
  go_wp2
  refine wp_loop_rounds 1 ?_; rw [rounds_succ]
  have hbw : Below w.heap.size w wr := HB0.out.trans (hbr.mono (by have := HN0.out; omega))
  have hUs : (⟨U.toArray⟩ : ByteArray).size ≤ 16777216 := by rw [show (⟨U.toArray⟩ : ByteArray).size = U.length from by simp [ByteArray.size]]; omega
  have HUS := Lib.hid hUs; have HBW := Lib.hid hbw; have HBR := Lib.hid hbr; have HUL := Lib.hid hul
  have hzw : w.heap.size < wr.heap.size := by have := HN0.out; omega
  clear hUs hbw hbr hul hown
  go_wp2_with fail
  refine (rEncode_any k ⟨U.toArray⟩ HUS.out _).mono ?_
  rintro e w5 ⟨vb, rfl, rb, hb⟩
  rw [show (⟨U.toArray⟩ : ByteArray).data.toList = U from by simp, HCC.out]
  rw [show (⟨U.toArray⟩ : ByteArray).data.toList = U from by simp, HE.out] at rb
  have r0 : w5.cell? ⟨w.heap.size, 0, none⟩ = some (.int .i64 0) := (hb.cell (p := ⟨w.heap.size, 0, none⟩) (by simp; omega)).trans ((World.cell?_alloc_past _ _ _ hzw).trans ((HBR.out.cell (p := ⟨w.heap.size, 0, none⟩) (by have := HN0.out; simp only []; omega)).trans HC.out.1))
  have r1 : w5.cell? ⟨w.heap.size, 1, none⟩ = some (.string { data := #[] }) := (hb.cell (p := ⟨w.heap.size, 1, none⟩) (by simp; omega)).trans ((World.cell?_alloc_past _ _ _ hzw).trans ((HBR.out.cell (p := ⟨w.heap.size, 1, none⟩) (by have := HN0.out; simp only []; omega)).trans HC.out.2.1))
  have q0 : w5.frozen? ⟨w.heap.size, 0, none⟩ = false := (hb.frozen (p := ⟨w.heap.size, 0, none⟩) (by simp; omega)).trans ((World.frozen?_alloc_past _ _ _ hzw).trans ((HBR.out.frozen (p := ⟨w.heap.size, 0, none⟩) (by have := HN0.out; simp only []; omega)).trans HC.out.2.2.1))
  have q1 : w5.frozen? ⟨w.heap.size, 1, none⟩ = false := (hb.frozen (p := ⟨w.heap.size, 1, none⟩) (by simp; omega)).trans ((World.frozen?_alloc_past _ _ _ hzw).trans ((HBR.out.frozen (p := ⟨w.heap.size, 1, none⟩) (by have := HN0.out; simp only []; omega)).trans HC.out.2.2.2))
  have t0 : w5.cell? ⟨wr.heap.size, 0, none⟩ = some (.int .i64 k) := (hb.cell (p := ⟨wr.heap.size, 0, none⟩) (by simp)).trans (by simp [go_sem])
  have t1 : w5.cell? ⟨wr.heap.size, 1, none⟩ = some (.string ⟨U.toArray⟩) := (hb.cell (p := ⟨wr.heap.size, 1, none⟩) (by simp)).trans (by simp [go_sem])
  have hb5 : Below w.heap.size w w5 := (HBW.out.alloc (by omega) _).trans (hb.mono (by simp; omega))
  have HB5 := Lib.hid hb5; have hz5 := lt_of_cell r0; have RB := Lib.hid rb
  clear hb hb5 rb hzw
  go_wp2
  have hts := two_stored r0 r1 (.int .i64 0) (.string { data := #[] })
  refine ret_two Tryd.results14 ⟨_, rfl, loadVar_cells _ _ _ 0 [.int .i64 0, .string { data := #[] }] _ Tryd.underlying23 rfl (by kernel_rfl) (cells2 hts.1 hts.2)⟩ rfl rfl ⟨?_, ?_⟩
  · unfold decK decV decC; simp [HK.out, HOK.out]
  · exact (by (repeat (first | exact HB5.out | refine Below.setCell ?_ ?_ _ | refine Below.alloc ?_ ?_ _ | refine Below.drew ?_)) <;> first | omega | (simp; done) | (simp; omega))

set_option maxRecDepth 100000 in
set_option maxHeartbeats 4000000 in
theorem rDec_1A (k : Int) (S : Nat → Prop) (v : Value) (c : List UInt8) (w : World) (hrd : RdBytes S w v c) (hs : c.length ≤ 1000000) (hk : widthS k = 1) (L : List UInt8) (hL : decB k c = L) (h1 : validS k L = true) (h2 : encS k L = c) :
    Calls Tryd.prog 14 #[.int .i64 k, v] w (DecPost k c w) := by
  have hok : okD k c = true := by unfold okD; rw [hL]; simp [h1, h2]
  have hLs : L.length ≤ 4000000 := by rw [← hL]; exact decB_len k c hs
  obtain ⟨E, hE⟩ : ∃ E, encR k L = E := ⟨_, rfl⟩
  obtain ⟨Cc, hCc⟩ : ∃ Cc, encC k L = Cc := ⟨_, rfl⟩
  have hCv : Cc = 0 := by rw [← hCc]; unfold encC; rw [h1]; rfl
  subst hCv
  have hEe : (E == c) = true := by rw [← hE]; unfold encR; rw [h1, if_pos rfl]; simp [h2]
  have hdL : decB k c = L := hL
  have HOK := Lib.hid hok; have HE := Lib.hid hE; have HCC := Lib.hid hCc; have HK := Lib.hid hk; have HL := Lib.hid hdL; have HEE := Lib.hid hEe; have H2 := Lib.hid h2
  clear hok hE hCc hk hL hdL hEe h2
  obtain ⟨a, cp, rfl, hq1, hq2, hq3, hq4⟩ := hrd
  obtain ⟨n, hn⟩ : ∃ n, c.length = n := ⟨_, rfl⟩
  rw [hn] at hq1 hq3 hs ⊢
  have HN := Lib.hid hn; have HQ := Lib.hid hq4; have HQ3 := Lib.hid hq3
  clear hn hq4 hq3
  have hnm : (n : Int) ≤ 9223372036854775807 := by omega
  have hrd0 : RdBytes S w (.slice a n cp) c := ⟨a, cp, by rw [HN.out], by rw [HN.out]; exact hq1, hq2, by rw [HN.out]; exact HQ3.out, HQ.out⟩
  have HRD := Lib.hid hrd0; clear hrd0
  go_enter Tryd.func14, Tryd.ntmps14
  go_wp2_with (go_at_call 28; refine (width_any k _).mono ?_; rintro e w3 ⟨rfl, rfl⟩; rw [HK.out])
  obtain ⟨W0, hW0⟩ : ∃ W0, w.alloc (.cells #[.int .i64 0, .string { data := #[] }] 23) = W0 := ⟨_, rfl⟩
  rw [hW0]
  have hb0 : Below w.heap.size w W0 := by rw [← hW0]; exact (Below.refl _ _).alloc (Nat.le_refl _) _
  have hz0 : W0.heap.size = w.heap.size + 1 := by rw [← hW0]; simp
  have c0 : W0.cell? ⟨w.heap.size, 0, none⟩ = some (.int .i64 0) := by rw [← hW0]; simp [go_sem]
  have c1 : W0.cell? ⟨w.heap.size, 1, none⟩ = some (.string { data := #[] }) := by rw [← hW0]; simp [go_sem]
  have z0 : W0.frozen? ⟨w.heap.size, 0, none⟩ = false := by rw [← hW0]; simp [go_sem]
  have z1 : W0.frozen? ⟨w.heap.size, 1, none⟩ = false := by rw [← hW0]; simp [go_sem]
  clear hW0
  have HC := Lib.hid (And.intro c0 (And.intro c1 (And.intro z0 z1)))
  clear c0 c1 z0 z1
  obtain ⟨N0, hN0⟩ : ∃ N0, w.heap.size + 1 = N0 := ⟨_, rfl⟩
  rw [hN0] at hz0
  have HZ := Lib.hid hz0; have HN0 := Lib.hid hN0; have HB0 := Lib.hid hb0
  have hzle : N0 ≤ W0.heap.size := Nat.le_of_eq hz0.symm
  clear hz0 hN0 hb0
  go_loopw [7, 8] (fun o i wr => ∃ (j ii : Nat), i = .int .i64 ii ∧ Hid (ii = j * 1) ∧ ii ≤ n ∧ wr.ownsRow N0 5 1 o (unitsTo 1 c j).length (Lib.byteCells (unitsTo 1 c j)) ∧ Below N0 W0 wr)
    (fun _ i _ => n - (intOf i).toNat)
  case atStart => exact ⟨0, 0, rfl, Lib.hid (by omega), by omega, World.ownsRow_nil _ _ _ _, Below.refl _ _⟩
  case round =>
    obtain ⟨j, ii, rfl, hii, hin, hown, hbr⟩ := hrel
    have hul := unitsTo_len 1 c j
    have hsz : N0 ≤ wr.heap.size := Nat.le_trans hzle hbr.size
    obtain ⟨U, hU⟩ : ∃ U, unitsTo 1 c j = U := ⟨_, rfl⟩
    rw [hU] at hown hul
    have HU := Lib.hid hU; clear hU
    have hj4 : j ≤ 1000000 := by have := hii.out; omega
    by_cases hlt : ii + 1 ≤ n
    · have d : decide ((ii : Int) + 1 ≤ (n : Int)) = true := by rw [decide_eq_true_iff]; omega
      go_wp2
      go_loop [9, 10] (fun x q => ∃ (q' x' : Nat), q = .int .i64 q' ∧ x = .int .i64 x' ∧ q' ≤ 1 ∧ Hid (x' = numAt c ii q') ∧ x' < 4294967296)
        (fun _ q => 1 - (intOf q).toNat)
      case atStart => exact ⟨0, 0, rfl, rfl, by omega, Lib.hid rfl, by omega⟩
      case round =>
        obtain ⟨q, x, rfl, rfl, hq, hx, hxl⟩ := hrel
        by_cases hql : q < 1
        · have hcl : c.length = n := HN.out
          obtain ⟨y, hy⟩ : ∃ y : Nat, (c.getD (ii + q) 0).toNat = y := ⟨_, rfl⟩
          obtain ⟨bb, oo, rfl, -, hcell⟩ := HQ.out (ii + q) (.int .u8 y) (by rw [byteCells_get, ← hy, List.getD_eq_getElem?_getD, List.getElem?_eq_getElem (show ii + q < c.length by omega)]; rfl)
          have hlt0 := lt_of_cell hcell
          have hcr : wr.cell? ⟨bb, oo + (ii + q), none⟩ = some (.int .u8 y) := (hbr.cell (p := ⟨bb, oo + (ii + q), none⟩) (by have := HN0.out; simp only [] at hlt0 ⊢; omega)).trans ((HB0.out.cell (p := ⟨bb, oo + (ii + q), none⟩) hlt0).trans hcell)
          have hy2 : y < 256 := by rw [← hy]; exact (c.getD (ii + q) 0).toNat_lt
          have hstep : x * 256 + y = numAt c ii (q + 1) := by rw [numAt, ← hx.out, hy]
          have hbd : x * 256 + y < 4294967296 := by
            rw [hstep]
            exact Nat.lt_of_lt_of_le (numAt_lt c ii (q + 1)) (by have h := Nat.pow_le_pow_right (n := 256) (by omega) (show q + 1 ≤ 4 by omega); exact h)
          have HS := Lib.hid hstep
          clear hstep hy hcell hlt0 hcl
          have e1 : (0 : Int) ≤ (ii : Int) + (q : Int) := by omega
          have e2 : (ii : Int) + (q : Int) < (n : Int) := by omega
          go_wp2
          go_round
          case rel => exact ⟨q + 1, x * 256 + y, by go_num, by go_num, by omega, Lib.hid HS.out, hbd⟩
          case measure => simp [intOf]; omega
        · have hqW : q = 1 := by omega
          subst hqW
          have HX := Lib.hid hx.out; clear hx
          go_wp2_with (first | (go_at_call 35; refine (Octets_any x (by omega) _).mono ?_; rintro e w4 ⟨v, rfl, hrd, hb5⟩; have hl5 := octs_len4 x; have hown5 := owns_below hown hb5; clear hown; have hbr5 := hbr.trans (hb5.mono hsz); clear hbr hb5; have hs5 := hbr5.size) | (at_builtin; refine wpList_append_rd rfl _ _ 31 rfl byteElem hbr5 (by omega) hown5 rfl hrd rfl ?_ ?_ ?_ ?_; (intro u hu; simp only [Lib.byteCells, List.mem_map] at hu; obtain ⟨y, _, rfl⟩ := hu; rfl); (unfold maxLen; omega); omega; rintro v' w5 hown6 hb4 - - - -; clear hown5 hbr5 hrd))
          go_roundw
          case rel => exact ⟨j + 1, ii + 1, by go_num, Lib.hid (by have := hii.out; omega), by omega, by rw [unitsTo_succ, HU.out, ← hii.out, ← HX.out]; exact rd_append_bytes hown6, hb4⟩
          case measure => simp [intOf]; omega
    · have d : decide ((ii : Int) + 1 ≤ (n : Int)) = false := by rw [decide_eq_false_iff_not]; omega
      have hUL : U = L := by
        rw [← HL.out, ← HU.out]
        unfold decB
        rw [HK.out, if_neg (by decide)]
        congr 1
        have h1 := hii.out
        have h2 := HN.out
        show j = c.length / 1
        omega
      subst hUL
      have hcv := RdBytes.string (P := Tryd.prog) (RdRow.of_owns hown) 31 9 5 Tryd.underlying31 Tryd.underlying5 Tryd.underlying9
      have hbw : Below w.heap.size w wr := HB0.out.trans (hbr.mono (by have := HN0.out; omega))
      have hUs : (⟨U.toArray⟩ : ByteArray).size ≤ 16777216 := by rw [show (⟨U.toArray⟩ : ByteArray).size = U.length from by simp [ByteArray.size]]; omega
      have HUS := Lib.hid hUs; have HBW := Lib.hid hbw; have HBR := Lib.hid hbr; have HUL := Lib.hid hul
      have hzw : w.heap.size < wr.heap.size := by have := HN0.out; omega
      clear hUs hbw hbr hul hown
      go_wp2_with fail
      refine (rEncode_any k ⟨U.toArray⟩ HUS.out _).mono ?_
      rintro e w5 ⟨vb, rfl, rb, hb⟩
      rw [show (⟨U.toArray⟩ : ByteArray).data.toList = U from by simp, HCC.out]
      rw [show (⟨U.toArray⟩ : ByteArray).data.toList = U from by simp, HE.out] at rb
      have r0 : w5.cell? ⟨w.heap.size, 0, none⟩ = some (.int .i64 0) := (hb.cell (p := ⟨w.heap.size, 0, none⟩) (by simp; omega)).trans ((World.cell?_alloc_past _ _ _ hzw).trans ((HBR.out.cell (p := ⟨w.heap.size, 0, none⟩) (by have := HN0.out; simp only []; omega)).trans HC.out.1))
      have r1 : w5.cell? ⟨w.heap.size, 1, none⟩ = some (.string { data := #[] }) := (hb.cell (p := ⟨w.heap.size, 1, none⟩) (by simp; omega)).trans ((World.cell?_alloc_past _ _ _ hzw).trans ((HBR.out.cell (p := ⟨w.heap.size, 1, none⟩) (by have := HN0.out; simp only []; omega)).trans HC.out.2.1))
      have q0 : w5.frozen? ⟨w.heap.size, 0, none⟩ = false := (hb.frozen (p := ⟨w.heap.size, 0, none⟩) (by simp; omega)).trans ((World.frozen?_alloc_past _ _ _ hzw).trans ((HBR.out.frozen (p := ⟨w.heap.size, 0, none⟩) (by have := HN0.out; simp only []; omega)).trans HC.out.2.2.1))
      have q1 : w5.frozen? ⟨w.heap.size, 1, none⟩ = false := (hb.frozen (p := ⟨w.heap.size, 1, none⟩) (by simp; omega)).trans ((World.frozen?_alloc_past _ _ _ hzw).trans ((HBR.out.frozen (p := ⟨w.heap.size, 1, none⟩) (by have := HN0.out; simp only []; omega)).trans HC.out.2.2.2))
      have t0 : w5.cell? ⟨wr.heap.size, 0, none⟩ = some (.int .i64 k) := (hb.cell (p := ⟨wr.heap.size, 0, none⟩) (by simp)).trans (by simp [go_sem])
      have t1 : w5.cell? ⟨wr.heap.size, 1, none⟩ = some (.string ⟨U.toArray⟩) := (hb.cell (p := ⟨wr.heap.size, 1, none⟩) (by simp)).trans (by simp [go_sem])
      have hb5 : Below w.heap.size w w5 := (HBW.out.alloc (by omega) _).trans (hb.mono (by simp; omega))
      have HB5 := Lib.hid hb5; have hz5 := lt_of_cell r0; have RB := Lib.hid rb
      clear hb hb5 rb hzw
      go_wp2_with fail
      refine (Bytes_any _ _ _ _ _ E c RB.out (HRD.out.below HB5.out)).mono ?_
      rintro e w6 ⟨rfl, rfl⟩
      rw [HEE.out]
      go_wp2
      have hts := two_stored r0 r1 (.int .i64 k) (.string ⟨U.toArray⟩)
      refine ret_two Tryd.results14 ⟨_, rfl, loadVar_cells _ _ _ 0 [.int .i64 k, .string ⟨U.toArray⟩] _ Tryd.underlying23 rfl (by kernel_rfl) (cells2 hts.1 hts.2)⟩ rfl rfl ⟨?_, ?_⟩
      · unfold decK decV decC; simp [HK.out, HOK.out, HL.out]
      · exact (by (repeat (first | exact HB5.out | refine Below.setCell ?_ ?_ _ | refine Below.alloc ?_ ?_ _ | refine Below.drew ?_)) <;> first | omega | (simp; done) | (simp; omega))

set_option maxRecDepth 100000 in
set_option maxHeartbeats 4000000 in
theorem rDec_1B (k : Int) (S : Nat → Prop) (v : Value) (c : List UInt8) (w : World) (hrd : RdBytes S w v c) (hs : c.length ≤ 1000000) (hk : widthS k = 1) (L : List UInt8) (hL : decB k c = L) (h1 : validS k L = true) (h2 : encS k L ≠ c) :
    Calls Tryd.prog 14 #[.int .i64 k, v] w (DecPost k c w) := by
  have hok : okD k c = false := by unfold okD; rw [hL]; simp [h1, h2]
  have hLs : L.length ≤ 4000000 := by rw [← hL]; exact decB_len k c hs
  obtain ⟨E, hE⟩ : ∃ E, encR k L = E := ⟨_, rfl⟩
  obtain ⟨Cc, hCc⟩ : ∃ Cc, encC k L = Cc := ⟨_, rfl⟩
  have hCv : Cc = 0 := by rw [← hCc]; unfold encC; rw [h1]; rfl
  subst hCv
  have hEe : (E == c) = false := by rw [← hE]; unfold encR; rw [h1, if_pos rfl]; simp [h2]
  have hdL : decB k c = L := hL
  have HOK := Lib.hid hok; have HE := Lib.hid hE; have HCC := Lib.hid hCc; have HK := Lib.hid hk; have HL := Lib.hid hdL; have HEE := Lib.hid hEe; have H2 := Lib.hid h2
  clear hok hE hCc hk hL hdL hEe h2
  obtain ⟨a, cp, rfl, hq1, hq2, hq3, hq4⟩ := hrd
  obtain ⟨n, hn⟩ : ∃ n, c.length = n := ⟨_, rfl⟩
  rw [hn] at hq1 hq3 hs ⊢
  have HN := Lib.hid hn; have HQ := Lib.hid hq4; have HQ3 := Lib.hid hq3
  clear hn hq4 hq3
  have hnm : (n : Int) ≤ 9223372036854775807 := by omega
  have hrd0 : RdBytes S w (.slice a n cp) c := ⟨a, cp, by rw [HN.out], by rw [HN.out]; exact hq1, hq2, by rw [HN.out]; exact HQ3.out, HQ.out⟩
  have HRD := Lib.hid hrd0; clear hrd0
  go_enter Tryd.func14, Tryd.ntmps14
  go_wp2_with (go_at_call 28; refine (width_any k _).mono ?_; rintro e w3 ⟨rfl, rfl⟩; rw [HK.out])
  obtain ⟨W0, hW0⟩ : ∃ W0, w.alloc (.cells #[.int .i64 0, .string { data := #[] }] 23) = W0 := ⟨_, rfl⟩
  rw [hW0]
  have hb0 : Below w.heap.size w W0 := by rw [← hW0]; exact (Below.refl _ _).alloc (Nat.le_refl _) _
  have hz0 : W0.heap.size = w.heap.size + 1 := by rw [← hW0]; simp
  have c0 : W0.cell? ⟨w.heap.size, 0, none⟩ = some (.int .i64 0) := by rw [← hW0]; simp [go_sem]
  have c1 : W0.cell? ⟨w.heap.size, 1, none⟩ = some (.string { data := #[] }) := by rw [← hW0]; simp [go_sem]
  have z0 : W0.frozen? ⟨w.heap.size, 0, none⟩ = false := by rw [← hW0]; simp [go_sem]
  have z1 : W0.frozen? ⟨w.heap.size, 1, none⟩ = false := by rw [← hW0]; simp [go_sem]
  clear hW0
  have HC := Lib.hid (And.intro c0 (And.intro c1 (And.intro z0 z1)))
  clear c0 c1 z0 z1
  obtain ⟨N0, hN0⟩ : ∃ N0, w.heap.size + 1 = N0 := ⟨_, rfl⟩
  rw [hN0] at hz0
  have HZ := Lib.hid hz0; have HN0 := Lib.hid hN0; have HB0 := Lib.hid hb0
  have hzle : N0 ≤ W0.heap.size := Nat.le_of_eq hz0.symm
  clear hz0 hN0 hb0
  go_loopw [7, 8] (fun o i wr => ∃ (j ii : Nat), i = .int .i64 ii ∧ Hid (ii = j * 1) ∧ ii ≤ n ∧ wr.ownsRow N0 5 1 o (unitsTo 1 c j).length (Lib.byteCells (unitsTo 1 c j)) ∧ Below N0 W0 wr)
    (fun _ i _ => n - (intOf i).toNat)
  case atStart => exact ⟨0, 0, rfl, Lib.hid (by omega), by omega, World.ownsRow_nil _ _ _ _, Below.refl _ _⟩
  case round =>
    obtain ⟨j, ii, rfl, hii, hin, hown, hbr⟩ := hrel
    have hul := unitsTo_len 1 c j
    have hsz : N0 ≤ wr.heap.size := Nat.le_trans hzle hbr.size
    obtain ⟨U, hU⟩ : ∃ U, unitsTo 1 c j = U := ⟨_, rfl⟩
    rw [hU] at hown hul
    have HU := Lib.hid hU; clear hU
    have hj4 : j ≤ 1000000 := by have := hii.out; omega
    by_cases hlt : ii + 1 ≤ n
    · have d : decide ((ii : Int) + 1 ≤ (n : Int)) = true := by rw [decide_eq_true_iff]; omega
      go_wp2
      go_loop [9, 10] (fun x q => ∃ (q' x' : Nat), q = .int .i64 q' ∧ x = .int .i64 x' ∧ q' ≤ 1 ∧ Hid (x' = numAt c ii q') ∧ x' < 4294967296)
        (fun _ q => 1 - (intOf q).toNat)
      case atStart => exact ⟨0, 0, rfl, rfl, by omega, Lib.hid rfl, by omega⟩
      case round =>
        obtain ⟨q, x, rfl, rfl, hq, hx, hxl⟩ := hrel
        by_cases hql : q < 1
        · have hcl : c.length = n := HN.out
          obtain ⟨y, hy⟩ : ∃ y : Nat, (c.getD (ii + q) 0).toNat = y := ⟨_, rfl⟩
          obtain ⟨bb, oo, rfl, -, hcell⟩ := HQ.out (ii + q) (.int .u8 y) (by rw [byteCells_get, ← hy, List.getD_eq_getElem?_getD, List.getElem?_eq_getElem (show ii + q < c.length by omega)]; rfl)
          have hlt0 := lt_of_cell hcell
          have hcr : wr.cell? ⟨bb, oo + (ii + q), none⟩ = some (.int .u8 y) := (hbr.cell (p := ⟨bb, oo + (ii + q), none⟩) (by have := HN0.out; simp only [] at hlt0 ⊢; omega)).trans ((HB0.out.cell (p := ⟨bb, oo + (ii + q), none⟩) hlt0).trans hcell)
          have hy2 : y < 256 := by rw [← hy]; exact (c.getD (ii + q) 0).toNat_lt
          have hstep : x * 256 + y = numAt c ii (q + 1) := by rw [numAt, ← hx.out, hy]
          have hbd : x * 256 + y < 4294967296 := by
            rw [hstep]
            exact Nat.lt_of_lt_of_le (numAt_lt c ii (q + 1)) (by have h := Nat.pow_le_pow_right (n := 256) (by omega) (show q + 1 ≤ 4 by omega); exact h)
          have HS := Lib.hid hstep
          clear hstep hy hcell hlt0 hcl
          have e1 : (0 : Int) ≤ (ii : Int) + (q : Int) := by omega
          have e2 : (ii : Int) + (q : Int) < (n : Int) := by omega
          go_wp2
          go_round
          case rel => exact ⟨q + 1, x * 256 + y, by go_num, by go_num, by omega, Lib.hid HS.out, hbd⟩
          case measure => simp [intOf]; omega
        · have hqW : q = 1 := by omega
          subst hqW
          have HX := Lib.hid hx.out; clear hx
          go_wp2_with (first | (go_at_call 35; refine (Octets_any x (by omega) _).mono ?_; rintro e w4 ⟨v, rfl, hrd, hb5⟩; have hl5 := octs_len4 x; have hown5 := owns_below hown hb5; clear hown; have hbr5 := hbr.trans (hb5.mono hsz); clear hbr hb5; have hs5 := hbr5.size) | (at_builtin; refine wpList_append_rd rfl _ _ 31 rfl byteElem hbr5 (by omega) hown5 rfl hrd rfl ?_ ?_ ?_ ?_; (intro u hu; simp only [Lib.byteCells, List.mem_map] at hu; obtain ⟨y, _, rfl⟩ := hu; rfl); (unfold maxLen; omega); omega; rintro v' w5 hown6 hb4 - - - -; clear hown5 hbr5 hrd))
          go_roundw
          case rel => exact ⟨j + 1, ii + 1, by go_num, Lib.hid (by have := hii.out; omega), by omega, by rw [unitsTo_succ, HU.out, ← hii.out, ← HX.out]; exact rd_append_bytes hown6, hb4⟩
          case measure => simp [intOf]; omega
    · have d : decide ((ii : Int) + 1 ≤ (n : Int)) = false := by rw [decide_eq_false_iff_not]; omega
      have hUL : U = L := by
        rw [← HL.out, ← HU.out]
        unfold decB
        rw [HK.out, if_neg (by decide)]
        congr 1
        have h1 := hii.out
        have h2 := HN.out
        show j = c.length / 1
        omega
      subst hUL
      have hcv := RdBytes.string (P := Tryd.prog) (RdRow.of_owns hown) 31 9 5 Tryd.underlying31 Tryd.underlying5 Tryd.underlying9
      have hbw : Below w.heap.size w wr := HB0.out.trans (hbr.mono (by have := HN0.out; omega))
      have hUs : (⟨U.toArray⟩ : ByteArray).size ≤ 16777216 := by rw [show (⟨U.toArray⟩ : ByteArray).size = U.length from by simp [ByteArray.size]]; omega
      have HUS := Lib.hid hUs; have HBW := Lib.hid hbw; have HBR := Lib.hid hbr; have HUL := Lib.hid hul
      have hzw : w.heap.size < wr.heap.size := by have := HN0.out; omega
      clear hUs hbw hbr hul hown
      go_wp2_with fail
      refine (rEncode_any k ⟨U.toArray⟩ HUS.out _).mono ?_
      rintro e w5 ⟨vb, rfl, rb, hb⟩
      rw [show (⟨U.toArray⟩ : ByteArray).data.toList = U from by simp, HCC.out]
      rw [show (⟨U.toArray⟩ : ByteArray).data.toList = U from by simp, HE.out] at rb
      have r0 : w5.cell? ⟨w.heap.size, 0, none⟩ = some (.int .i64 0) := (hb.cell (p := ⟨w.heap.size, 0, none⟩) (by simp; omega)).trans ((World.cell?_alloc_past _ _ _ hzw).trans ((HBR.out.cell (p := ⟨w.heap.size, 0, none⟩) (by have := HN0.out; simp only []; omega)).trans HC.out.1))
      have r1 : w5.cell? ⟨w.heap.size, 1, none⟩ = some (.string { data := #[] }) := (hb.cell (p := ⟨w.heap.size, 1, none⟩) (by simp; omega)).trans ((World.cell?_alloc_past _ _ _ hzw).trans ((HBR.out.cell (p := ⟨w.heap.size, 1, none⟩) (by have := HN0.out; simp only []; omega)).trans HC.out.2.1))
      have q0 : w5.frozen? ⟨w.heap.size, 0, none⟩ = false := (hb.frozen (p := ⟨w.heap.size, 0, none⟩) (by simp; omega)).trans ((World.frozen?_alloc_past _ _ _ hzw).trans ((HBR.out.frozen (p := ⟨w.heap.size, 0, none⟩) (by have := HN0.out; simp only []; omega)).trans HC.out.2.2.1))
      have q1 : w5.frozen? ⟨w.heap.size, 1, none⟩ = false := (hb.frozen (p := ⟨w.heap.size, 1, none⟩) (by simp; omega)).trans ((World.frozen?_alloc_past _ _ _ hzw).trans ((HBR.out.frozen (p := ⟨w.heap.size, 1, none⟩) (by have := HN0.out; simp only []; omega)).trans HC.out.2.2.2))
      have t0 : w5.cell? ⟨wr.heap.size, 0, none⟩ = some (.int .i64 k) := (hb.cell (p := ⟨wr.heap.size, 0, none⟩) (by simp)).trans (by simp [go_sem])
      have t1 : w5.cell? ⟨wr.heap.size, 1, none⟩ = some (.string ⟨U.toArray⟩) := (hb.cell (p := ⟨wr.heap.size, 1, none⟩) (by simp)).trans (by simp [go_sem])
      have hb5 : Below w.heap.size w w5 := (HBW.out.alloc (by omega) _).trans (hb.mono (by simp; omega))
      have HB5 := Lib.hid hb5; have hz5 := lt_of_cell r0; have RB := Lib.hid rb
      clear hb hb5 rb hzw
      go_wp2_with fail
      refine (Bytes_any _ _ _ _ _ E c RB.out (HRD.out.below HB5.out)).mono ?_
      rintro e w6 ⟨rfl, rfl⟩
      rw [HEE.out]
      go_wp2
      have hts := two_stored r0 r1 (.int .i64 0) (.string { data := #[] })
      refine ret_two Tryd.results14 ⟨_, rfl, loadVar_cells _ _ _ 0 [.int .i64 0, .string { data := #[] }] _ Tryd.underlying23 rfl (by kernel_rfl) (cells2 hts.1 hts.2)⟩ rfl rfl ⟨?_, ?_⟩
      · unfold decK decV decC; simp [HK.out, HOK.out]
      · exact (by (repeat (first | exact HB5.out | refine Below.setCell ?_ ?_ _ | refine Below.alloc ?_ ?_ _ | refine Below.drew ?_)) <;> first | omega | (simp; done) | (simp; omega))

set_option maxRecDepth 100000 in
set_option maxHeartbeats 4000000 in
theorem rDec_1C (k : Int) (S : Nat → Prop) (v : Value) (c : List UInt8) (w : World) (hrd : RdBytes S w v c) (hs : c.length ≤ 1000000) (hk : widthS k = 1) (L : List UInt8) (hL : decB k c = L) (h1 : validS k L = false) :
    Calls Tryd.prog 14 #[.int .i64 k, v] w (DecPost k c w) := by
  have hok : okD k c = false := by unfold okD; rw [hL]; simp [h1]
  have hLs : L.length ≤ 4000000 := by rw [← hL]; exact decB_len k c hs
  obtain ⟨E, hE⟩ : ∃ E, encR k L = E := ⟨_, rfl⟩
  obtain ⟨Cc, hCc⟩ : ∃ Cc, encC k L = Cc := ⟨_, rfl⟩
  have hCv : Cc = 8 := by rw [← hCc]; unfold encC; rw [h1]; rfl
  subst hCv
  have hdL : decB k c = L := hL
  have HOK := Lib.hid hok; have HE := Lib.hid hE; have HCC := Lib.hid hCc; have HK := Lib.hid hk; have HL := Lib.hid hdL
  clear hok hE hCc hk hL hdL
  obtain ⟨a, cp, rfl, hq1, hq2, hq3, hq4⟩ := hrd
  obtain ⟨n, hn⟩ : ∃ n, c.length = n := ⟨_, rfl⟩
  rw [hn] at hq1 hq3 hs ⊢
  have HN := Lib.hid hn; have HQ := Lib.hid hq4; have HQ3 := Lib.hid hq3
  clear hn hq4 hq3
  have hnm : (n : Int) ≤ 9223372036854775807 := by omega
  have hrd0 : RdBytes S w (.slice a n cp) c := ⟨a, cp, by rw [HN.out], by rw [HN.out]; exact hq1, hq2, by rw [HN.out]; exact HQ3.out, HQ.out⟩
  have HRD := Lib.hid hrd0; clear hrd0
  go_enter Tryd.func14, Tryd.ntmps14
  go_wp2_with (go_at_call 28; refine (width_any k _).mono ?_; rintro e w3 ⟨rfl, rfl⟩; rw [HK.out])
  obtain ⟨W0, hW0⟩ : ∃ W0, w.alloc (.cells #[.int .i64 0, .string { data := #[] }] 23) = W0 := ⟨_, rfl⟩
  rw [hW0]
  have hb0 : Below w.heap.size w W0 := by rw [← hW0]; exact (Below.refl _ _).alloc (Nat.le_refl _) _
  have hz0 : W0.heap.size = w.heap.size + 1 := by rw [← hW0]; simp
  have c0 : W0.cell? ⟨w.heap.size, 0, none⟩ = some (.int .i64 0) := by rw [← hW0]; simp [go_sem]
  have c1 : W0.cell? ⟨w.heap.size, 1, none⟩ = some (.string { data := #[] }) := by rw [← hW0]; simp [go_sem]
  have z0 : W0.frozen? ⟨w.heap.size, 0, none⟩ = false := by rw [← hW0]; simp [go_sem]
  have z1 : W0.frozen? ⟨w.heap.size, 1, none⟩ = false := by rw [← hW0]; simp [go_sem]
  clear hW0
  have HC := Lib.hid (And.intro c0 (And.intro c1 (And.intro z0 z1)))
  clear c0 c1 z0 z1
  obtain ⟨N0, hN0⟩ : ∃ N0, w.heap.size + 1 = N0 := ⟨_, rfl⟩
  rw [hN0] at hz0
  have HZ := Lib.hid hz0; have HN0 := Lib.hid hN0; have HB0 := Lib.hid hb0
  have hzle : N0 ≤ W0.heap.size := Nat.le_of_eq hz0.symm
  clear hz0 hN0 hb0
  go_loopw [7, 8] (fun o i wr => ∃ (j ii : Nat), i = .int .i64 ii ∧ Hid (ii = j * 1) ∧ ii ≤ n ∧ wr.ownsRow N0 5 1 o (unitsTo 1 c j).length (Lib.byteCells (unitsTo 1 c j)) ∧ Below N0 W0 wr)
    (fun _ i _ => n - (intOf i).toNat)
  case atStart => exact ⟨0, 0, rfl, Lib.hid (by omega), by omega, World.ownsRow_nil _ _ _ _, Below.refl _ _⟩
  case round =>
    obtain ⟨j, ii, rfl, hii, hin, hown, hbr⟩ := hrel
    have hul := unitsTo_len 1 c j
    have hsz : N0 ≤ wr.heap.size := Nat.le_trans hzle hbr.size
    obtain ⟨U, hU⟩ : ∃ U, unitsTo 1 c j = U := ⟨_, rfl⟩
    rw [hU] at hown hul
    have HU := Lib.hid hU; clear hU
    have hj4 : j ≤ 1000000 := by have := hii.out; omega
    by_cases hlt : ii + 1 ≤ n
    · have d : decide ((ii : Int) + 1 ≤ (n : Int)) = true := by rw [decide_eq_true_iff]; omega
      go_wp2
      go_loop [9, 10] (fun x q => ∃ (q' x' : Nat), q = .int .i64 q' ∧ x = .int .i64 x' ∧ q' ≤ 1 ∧ Hid (x' = numAt c ii q') ∧ x' < 4294967296)
        (fun _ q => 1 - (intOf q).toNat)
      case atStart => exact ⟨0, 0, rfl, rfl, by omega, Lib.hid rfl, by omega⟩
      case round =>
        obtain ⟨q, x, rfl, rfl, hq, hx, hxl⟩ := hrel
        by_cases hql : q < 1
        · have hcl : c.length = n := HN.out
          obtain ⟨y, hy⟩ : ∃ y : Nat, (c.getD (ii + q) 0).toNat = y := ⟨_, rfl⟩
          obtain ⟨bb, oo, rfl, -, hcell⟩ := HQ.out (ii + q) (.int .u8 y) (by rw [byteCells_get, ← hy, List.getD_eq_getElem?_getD, List.getElem?_eq_getElem (show ii + q < c.length by omega)]; rfl)
          have hlt0 := lt_of_cell hcell
          have hcr : wr.cell? ⟨bb, oo + (ii + q), none⟩ = some (.int .u8 y) := (hbr.cell (p := ⟨bb, oo + (ii + q), none⟩) (by have := HN0.out; simp only [] at hlt0 ⊢; omega)).trans ((HB0.out.cell (p := ⟨bb, oo + (ii + q), none⟩) hlt0).trans hcell)
          have hy2 : y < 256 := by rw [← hy]; exact (c.getD (ii + q) 0).toNat_lt
          have hstep : x * 256 + y = numAt c ii (q + 1) := by rw [numAt, ← hx.out, hy]
          have hbd : x * 256 + y < 4294967296 := by
            rw [hstep]
            exact Nat.lt_of_lt_of_le (numAt_lt c ii (q + 1)) (by have h := Nat.pow_le_pow_right (n := 256) (by omega) (show q + 1 ≤ 4 by omega); exact h)
          have HS := Lib.hid hstep
          clear hstep hy hcell hlt0 hcl
          have e1 : (0 : Int) ≤ (ii : Int) + (q : Int) := by omega
          have e2 : (ii : Int) + (q : Int) < (n : Int) := by omega
          go_wp2
          go_round
          case rel => exact ⟨q + 1, x * 256 + y, by go_num, by go_num, by omega, Lib.hid HS.out, hbd⟩
          case measure => simp [intOf]; omega
        · have hqW : q = 1 := by omega
          subst hqW
          have HX := Lib.hid hx.out; clear hx
          go_wp2_with (first | (go_at_call 35; refine (Octets_any x (by omega) _).mono ?_; rintro e w4 ⟨v, rfl, hrd, hb5⟩; have hl5 := octs_len4 x; have hown5 := owns_below hown hb5; clear hown; have hbr5 := hbr.trans (hb5.mono hsz); clear hbr hb5; have hs5 := hbr5.size) | (at_builtin; refine wpList_append_rd rfl _ _ 31 rfl byteElem hbr5 (by omega) hown5 rfl hrd rfl ?_ ?_ ?_ ?_; (intro u hu; simp only [Lib.byteCells, List.mem_map] at hu; obtain ⟨y, _, rfl⟩ := hu; rfl); (unfold maxLen; omega); omega; rintro v' w5 hown6 hb4 - - - -; clear hown5 hbr5 hrd))
          go_roundw
          case rel => exact ⟨j + 1, ii + 1, by go_num, Lib.hid (by have := hii.out; omega), by omega, by rw [unitsTo_succ, HU.out, ← hii.out, ← HX.out]; exact rd_append_bytes hown6, hb4⟩
          case measure => simp [intOf]; omega
    · have d : decide ((ii : Int) + 1 ≤ (n : Int)) = false := by rw [decide_eq_false_iff_not]; omega
      have hUL : U = L := by
        rw [← HL.out, ← HU.out]
        unfold decB
        rw [HK.out, if_neg (by decide)]
        congr 1
        have h1 := hii.out
        have h2 := HN.out
        show j = c.length / 1
        omega
      subst hUL
      have hcv := RdBytes.string (P := Tryd.prog) (RdRow.of_owns hown) 31 9 5 Tryd.underlying31 Tryd.underlying5 Tryd.underlying9
      have hbw : Below w.heap.size w wr := HB0.out.trans (hbr.mono (by have := HN0.out; omega))
      have hUs : (⟨U.toArray⟩ : ByteArray).size ≤ 16777216 := by rw [show (⟨U.toArray⟩ : ByteArray).size = U.length from by simp [ByteArray.size]]; omega
      have HUS := Lib.hid hUs; have HBW := Lib.hid hbw; have HBR := Lib.hid hbr; have HUL := Lib.hid hul
      have hzw : w.heap.size < wr.heap.size := by have := HN0.out; omega
      clear hUs hbw hbr hul hown
      go_wp2_with fail
      refine (rEncode_any k ⟨U.toArray⟩ HUS.out _).mono ?_
      rintro e w5 ⟨vb, rfl, rb, hb⟩
      rw [show (⟨U.toArray⟩ : ByteArray).data.toList = U from by simp, HCC.out]
      rw [show (⟨U.toArray⟩ : ByteArray).data.toList = U from by simp, HE.out] at rb
      have r0 : w5.cell? ⟨w.heap.size, 0, none⟩ = some (.int .i64 0) := (hb.cell (p := ⟨w.heap.size, 0, none⟩) (by simp; omega)).trans ((World.cell?_alloc_past _ _ _ hzw).trans ((HBR.out.cell (p := ⟨w.heap.size, 0, none⟩) (by have := HN0.out; simp only []; omega)).trans HC.out.1))
      have r1 : w5.cell? ⟨w.heap.size, 1, none⟩ = some (.string { data := #[] }) := (hb.cell (p := ⟨w.heap.size, 1, none⟩) (by simp; omega)).trans ((World.cell?_alloc_past _ _ _ hzw).trans ((HBR.out.cell (p := ⟨w.heap.size, 1, none⟩) (by have := HN0.out; simp only []; omega)).trans HC.out.2.1))
      have q0 : w5.frozen? ⟨w.heap.size, 0, none⟩ = false := (hb.frozen (p := ⟨w.heap.size, 0, none⟩) (by simp; omega)).trans ((World.frozen?_alloc_past _ _ _ hzw).trans ((HBR.out.frozen (p := ⟨w.heap.size, 0, none⟩) (by have := HN0.out; simp only []; omega)).trans HC.out.2.2.1))
      have q1 : w5.frozen? ⟨w.heap.size, 1, none⟩ = false := (hb.frozen (p := ⟨w.heap.size, 1, none⟩) (by simp; omega)).trans ((World.frozen?_alloc_past _ _ _ hzw).trans ((HBR.out.frozen (p := ⟨w.heap.size, 1, none⟩) (by have := HN0.out; simp only []; omega)).trans HC.out.2.2.2))
      have t0 : w5.cell? ⟨wr.heap.size, 0, none⟩ = some (.int .i64 k) := (hb.cell (p := ⟨wr.heap.size, 0, none⟩) (by simp)).trans (by simp [go_sem])
      have t1 : w5.cell? ⟨wr.heap.size, 1, none⟩ = some (.string ⟨U.toArray⟩) := (hb.cell (p := ⟨wr.heap.size, 1, none⟩) (by simp)).trans (by simp [go_sem])
      have hb5 : Below w.heap.size w w5 := (HBW.out.alloc (by omega) _).trans (hb.mono (by simp; omega))
      have HB5 := Lib.hid hb5; have hz5 := lt_of_cell r0; have RB := Lib.hid rb
      clear hb hb5 rb hzw
      go_wp2
      have hts := two_stored r0 r1 (.int .i64 0) (.string { data := #[] })
      refine ret_two Tryd.results14 ⟨_, rfl, loadVar_cells _ _ _ 0 [.int .i64 0, .string { data := #[] }] _ Tryd.underlying23 rfl (by kernel_rfl) (cells2 hts.1 hts.2)⟩ rfl rfl ⟨?_, ?_⟩
      · unfold decK decV decC; simp [HK.out, HOK.out]
      · exact (by (repeat (first | exact HB5.out | refine Below.setCell ?_ ?_ _ | refine Below.alloc ?_ ?_ _ | refine Below.drew ?_)) <;> first | omega | (simp; done) | (simp; omega))

set_option maxRecDepth 100000 in
set_option maxHeartbeats 4000000 in
theorem rDec_2A (k : Int) (S : Nat → Prop) (v : Value) (c : List UInt8) (w : World) (hrd : RdBytes S w v c) (hs : c.length ≤ 1000000) (hk : widthS k = 2) (L : List UInt8) (hL : decB k c = L) (h1 : validS k L = true) (h2 : encS k L = c) :
    Calls Tryd.prog 14 #[.int .i64 k, v] w (DecPost k c w) := by
  have hok : okD k c = true := by unfold okD; rw [hL]; simp [h1, h2]
  have hLs : L.length ≤ 4000000 := by rw [← hL]; exact decB_len k c hs
  obtain ⟨E, hE⟩ : ∃ E, encR k L = E := ⟨_, rfl⟩
  obtain ⟨Cc, hCc⟩ : ∃ Cc, encC k L = Cc := ⟨_, rfl⟩
  have hCv : Cc = 0 := by rw [← hCc]; unfold encC; rw [h1]; rfl
  subst hCv
  have hEe : (E == c) = true := by rw [← hE]; unfold encR; rw [h1, if_pos rfl]; simp [h2]
  have hdL : decB k c = L := hL
  have HOK := Lib.hid hok; have HE := Lib.hid hE; have HCC := Lib.hid hCc; have HK := Lib.hid hk; have HL := Lib.hid hdL; have HEE := Lib.hid hEe; have H2 := Lib.hid h2
  clear hok hE hCc hk hL hdL hEe h2
  obtain ⟨a, cp, rfl, hq1, hq2, hq3, hq4⟩ := hrd
  obtain ⟨n, hn⟩ : ∃ n, c.length = n := ⟨_, rfl⟩
  rw [hn] at hq1 hq3 hs ⊢
  have HN := Lib.hid hn; have HQ := Lib.hid hq4; have HQ3 := Lib.hid hq3
  clear hn hq4 hq3
  have hnm : (n : Int) ≤ 9223372036854775807 := by omega
  have hrd0 : RdBytes S w (.slice a n cp) c := ⟨a, cp, by rw [HN.out], by rw [HN.out]; exact hq1, hq2, by rw [HN.out]; exact HQ3.out, HQ.out⟩
  have HRD := Lib.hid hrd0; clear hrd0
  go_enter Tryd.func14, Tryd.ntmps14
  go_wp2_with (go_at_call 28; refine (width_any k _).mono ?_; rintro e w3 ⟨rfl, rfl⟩; rw [HK.out])
  obtain ⟨W0, hW0⟩ : ∃ W0, w.alloc (.cells #[.int .i64 0, .string { data := #[] }] 23) = W0 := ⟨_, rfl⟩
  rw [hW0]
  have hb0 : Below w.heap.size w W0 := by rw [← hW0]; exact (Below.refl _ _).alloc (Nat.le_refl _) _
  have hz0 : W0.heap.size = w.heap.size + 1 := by rw [← hW0]; simp
  have c0 : W0.cell? ⟨w.heap.size, 0, none⟩ = some (.int .i64 0) := by rw [← hW0]; simp [go_sem]
  have c1 : W0.cell? ⟨w.heap.size, 1, none⟩ = some (.string { data := #[] }) := by rw [← hW0]; simp [go_sem]
  have z0 : W0.frozen? ⟨w.heap.size, 0, none⟩ = false := by rw [← hW0]; simp [go_sem]
  have z1 : W0.frozen? ⟨w.heap.size, 1, none⟩ = false := by rw [← hW0]; simp [go_sem]
  clear hW0
  have HC := Lib.hid (And.intro c0 (And.intro c1 (And.intro z0 z1)))
  clear c0 c1 z0 z1
  obtain ⟨N0, hN0⟩ : ∃ N0, w.heap.size + 1 = N0 := ⟨_, rfl⟩
  rw [hN0] at hz0
  have HZ := Lib.hid hz0; have HN0 := Lib.hid hN0; have HB0 := Lib.hid hb0
  have hzle : N0 ≤ W0.heap.size := Nat.le_of_eq hz0.symm
  clear hz0 hN0 hb0
  go_loopw [7, 8] (fun o i wr => ∃ (j ii : Nat), i = .int .i64 ii ∧ Hid (ii = j * 2) ∧ ii ≤ n ∧ wr.ownsRow N0 5 1 o (unitsTo 2 c j).length (Lib.byteCells (unitsTo 2 c j)) ∧ Below N0 W0 wr)
    (fun _ i _ => n - (intOf i).toNat)
  case atStart => exact ⟨0, 0, rfl, Lib.hid (by omega), by omega, World.ownsRow_nil _ _ _ _, Below.refl _ _⟩
  case round =>
    obtain ⟨j, ii, rfl, hii, hin, hown, hbr⟩ := hrel
    have hul := unitsTo_len 2 c j
    have hsz : N0 ≤ wr.heap.size := Nat.le_trans hzle hbr.size
    obtain ⟨U, hU⟩ : ∃ U, unitsTo 2 c j = U := ⟨_, rfl⟩
    rw [hU] at hown hul
    have HU := Lib.hid hU; clear hU
    have hj4 : j ≤ 1000000 := by have := hii.out; omega
    by_cases hlt : ii + 2 ≤ n
    · have d : decide ((ii : Int) + 2 ≤ (n : Int)) = true := by rw [decide_eq_true_iff]; omega
      go_wp2
      go_loop [9, 10] (fun x q => ∃ (q' x' : Nat), q = .int .i64 q' ∧ x = .int .i64 x' ∧ q' ≤ 2 ∧ Hid (x' = numAt c ii q') ∧ x' < 4294967296)
        (fun _ q => 2 - (intOf q).toNat)
      case atStart => exact ⟨0, 0, rfl, rfl, by omega, Lib.hid rfl, by omega⟩
      case round =>
        obtain ⟨q, x, rfl, rfl, hq, hx, hxl⟩ := hrel
        by_cases hql : q < 2
        · have hcl : c.length = n := HN.out
          obtain ⟨y, hy⟩ : ∃ y : Nat, (c.getD (ii + q) 0).toNat = y := ⟨_, rfl⟩
          obtain ⟨bb, oo, rfl, -, hcell⟩ := HQ.out (ii + q) (.int .u8 y) (by rw [byteCells_get, ← hy, List.getD_eq_getElem?_getD, List.getElem?_eq_getElem (show ii + q < c.length by omega)]; rfl)
          have hlt0 := lt_of_cell hcell
          have hcr : wr.cell? ⟨bb, oo + (ii + q), none⟩ = some (.int .u8 y) := (hbr.cell (p := ⟨bb, oo + (ii + q), none⟩) (by have := HN0.out; simp only [] at hlt0 ⊢; omega)).trans ((HB0.out.cell (p := ⟨bb, oo + (ii + q), none⟩) hlt0).trans hcell)
          have hy2 : y < 256 := by rw [← hy]; exact (c.getD (ii + q) 0).toNat_lt
          have hstep : x * 256 + y = numAt c ii (q + 1) := by rw [numAt, ← hx.out, hy]
          have hbd : x * 256 + y < 4294967296 := by
            rw [hstep]
            exact Nat.lt_of_lt_of_le (numAt_lt c ii (q + 1)) (by have h := Nat.pow_le_pow_right (n := 256) (by omega) (show q + 1 ≤ 4 by omega); exact h)
          have HS := Lib.hid hstep
          clear hstep hy hcell hlt0 hcl
          have e1 : (0 : Int) ≤ (ii : Int) + (q : Int) := by omega
          have e2 : (ii : Int) + (q : Int) < (n : Int) := by omega
          go_wp2
          go_round
          case rel => exact ⟨q + 1, x * 256 + y, by go_num, by go_num, by omega, Lib.hid HS.out, hbd⟩
          case measure => simp [intOf]; omega
        · have hqW : q = 2 := by omega
          subst hqW
          have HX := Lib.hid hx.out; clear hx
          go_wp2_with (first | (go_at_call 35; refine (Octets_any x (by omega) _).mono ?_; rintro e w4 ⟨v, rfl, hrd, hb5⟩; have hl5 := octs_len4 x; have hown5 := owns_below hown hb5; clear hown; have hbr5 := hbr.trans (hb5.mono hsz); clear hbr hb5; have hs5 := hbr5.size) | (at_builtin; refine wpList_append_rd rfl _ _ 31 rfl byteElem hbr5 (by omega) hown5 rfl hrd rfl ?_ ?_ ?_ ?_; (intro u hu; simp only [Lib.byteCells, List.mem_map] at hu; obtain ⟨y, _, rfl⟩ := hu; rfl); (unfold maxLen; omega); omega; rintro v' w5 hown6 hb4 - - - -; clear hown5 hbr5 hrd))
          go_roundw
          case rel => exact ⟨j + 1, ii + 2, by go_num, Lib.hid (by have := hii.out; omega), by omega, by rw [unitsTo_succ, HU.out, ← hii.out, ← HX.out]; exact rd_append_bytes hown6, hb4⟩
          case measure => simp [intOf]; omega
    · have d : decide ((ii : Int) + 2 ≤ (n : Int)) = false := by rw [decide_eq_false_iff_not]; omega
      have hUL : U = L := by
        rw [← HL.out, ← HU.out]
        unfold decB
        rw [HK.out, if_neg (by decide)]
        congr 1
        have h1 := hii.out
        have h2 := HN.out
        show j = c.length / 2
        omega
      subst hUL
      have hcv := RdBytes.string (P := Tryd.prog) (RdRow.of_owns hown) 31 9 5 Tryd.underlying31 Tryd.underlying5 Tryd.underlying9
      have hbw : Below w.heap.size w wr := HB0.out.trans (hbr.mono (by have := HN0.out; omega))
      have hUs : (⟨U.toArray⟩ : ByteArray).size ≤ 16777216 := by rw [show (⟨U.toArray⟩ : ByteArray).size = U.length from by simp [ByteArray.size]]; omega
      have HUS := Lib.hid hUs; have HBW := Lib.hid hbw; have HBR := Lib.hid hbr; have HUL := Lib.hid hul
      have hzw : w.heap.size < wr.heap.size := by have := HN0.out; omega
      clear hUs hbw hbr hul hown
      go_wp2_with fail
      refine (rEncode_any k ⟨U.toArray⟩ HUS.out _).mono ?_
      rintro e w5 ⟨vb, rfl, rb, hb⟩
      rw [show (⟨U.toArray⟩ : ByteArray).data.toList = U from by simp, HCC.out]
      rw [show (⟨U.toArray⟩ : ByteArray).data.toList = U from by simp, HE.out] at rb
      have r0 : w5.cell? ⟨w.heap.size, 0, none⟩ = some (.int .i64 0) := (hb.cell (p := ⟨w.heap.size, 0, none⟩) (by simp; omega)).trans ((World.cell?_alloc_past _ _ _ hzw).trans ((HBR.out.cell (p := ⟨w.heap.size, 0, none⟩) (by have := HN0.out; simp only []; omega)).trans HC.out.1))
      have r1 : w5.cell? ⟨w.heap.size, 1, none⟩ = some (.string { data := #[] }) := (hb.cell (p := ⟨w.heap.size, 1, none⟩) (by simp; omega)).trans ((World.cell?_alloc_past _ _ _ hzw).trans ((HBR.out.cell (p := ⟨w.heap.size, 1, none⟩) (by have := HN0.out; simp only []; omega)).trans HC.out.2.1))
      have q0 : w5.frozen? ⟨w.heap.size, 0, none⟩ = false := (hb.frozen (p := ⟨w.heap.size, 0, none⟩) (by simp; omega)).trans ((World.frozen?_alloc_past _ _ _ hzw).trans ((HBR.out.frozen (p := ⟨w.heap.size, 0, none⟩) (by have := HN0.out; simp only []; omega)).trans HC.out.2.2.1))
      have q1 : w5.frozen? ⟨w.heap.size, 1, none⟩ = false := (hb.frozen (p := ⟨w.heap.size, 1, none⟩) (by simp; omega)).trans ((World.frozen?_alloc_past _ _ _ hzw).trans ((HBR.out.frozen (p := ⟨w.heap.size, 1, none⟩) (by have := HN0.out; simp only []; omega)).trans HC.out.2.2.2))
      have t0 : w5.cell? ⟨wr.heap.size, 0, none⟩ = some (.int .i64 k) := (hb.cell (p := ⟨wr.heap.size, 0, none⟩) (by simp)).trans (by simp [go_sem])
      have t1 : w5.cell? ⟨wr.heap.size, 1, none⟩ = some (.string ⟨U.toArray⟩) := (hb.cell (p := ⟨wr.heap.size, 1, none⟩) (by simp)).trans (by simp [go_sem])
      have hb5 : Below w.heap.size w w5 := (HBW.out.alloc (by omega) _).trans (hb.mono (by simp; omega))
      have HB5 := Lib.hid hb5; have hz5 := lt_of_cell r0; have RB := Lib.hid rb
      clear hb hb5 rb hzw
      go_wp2_with fail
      refine (Bytes_any _ _ _ _ _ E c RB.out (HRD.out.below HB5.out)).mono ?_
      rintro e w6 ⟨rfl, rfl⟩
      rw [HEE.out]
      go_wp2
      have hts := two_stored r0 r1 (.int .i64 k) (.string ⟨U.toArray⟩)
      refine ret_two Tryd.results14 ⟨_, rfl, loadVar_cells _ _ _ 0 [.int .i64 k, .string ⟨U.toArray⟩] _ Tryd.underlying23 rfl (by kernel_rfl) (cells2 hts.1 hts.2)⟩ rfl rfl ⟨?_, ?_⟩
      · unfold decK decV decC; simp [HK.out, HOK.out, HL.out]
      · exact (by (repeat (first | exact HB5.out | refine Below.setCell ?_ ?_ _ | refine Below.alloc ?_ ?_ _ | refine Below.drew ?_)) <;> first | omega | (simp; done) | (simp; omega))

set_option maxRecDepth 100000 in
set_option maxHeartbeats 4000000 in
theorem rDec_2B (k : Int) (S : Nat → Prop) (v : Value) (c : List UInt8) (w : World) (hrd : RdBytes S w v c) (hs : c.length ≤ 1000000) (hk : widthS k = 2) (L : List UInt8) (hL : decB k c = L) (h1 : validS k L = true) (h2 : encS k L ≠ c) :
    Calls Tryd.prog 14 #[.int .i64 k, v] w (DecPost k c w) := by
  have hok : okD k c = false := by unfold okD; rw [hL]; simp [h1, h2]
  have hLs : L.length ≤ 4000000 := by rw [← hL]; exact decB_len k c hs
  obtain ⟨E, hE⟩ : ∃ E, encR k L = E := ⟨_, rfl⟩
  obtain ⟨Cc, hCc⟩ : ∃ Cc, encC k L = Cc := ⟨_, rfl⟩
  have hCv : Cc = 0 := by rw [← hCc]; unfold encC; rw [h1]; rfl
  subst hCv
  have hEe : (E == c) = false := by rw [← hE]; unfold encR; rw [h1, if_pos rfl]; simp [h2]
  have hdL : decB k c = L := hL
  have HOK := Lib.hid hok; have HE := Lib.hid hE; have HCC := Lib.hid hCc; have HK := Lib.hid hk; have HL := Lib.hid hdL; have HEE := Lib.hid hEe; have H2 := Lib.hid h2
  clear hok hE hCc hk hL hdL hEe h2
  obtain ⟨a, cp, rfl, hq1, hq2, hq3, hq4⟩ := hrd
  obtain ⟨n, hn⟩ : ∃ n, c.length = n := ⟨_, rfl⟩
  rw [hn] at hq1 hq3 hs ⊢
  have HN := Lib.hid hn; have HQ := Lib.hid hq4; have HQ3 := Lib.hid hq3
  clear hn hq4 hq3
  have hnm : (n : Int) ≤ 9223372036854775807 := by omega
  have hrd0 : RdBytes S w (.slice a n cp) c := ⟨a, cp, by rw [HN.out], by rw [HN.out]; exact hq1, hq2, by rw [HN.out]; exact HQ3.out, HQ.out⟩
  have HRD := Lib.hid hrd0; clear hrd0
  go_enter Tryd.func14, Tryd.ntmps14
  go_wp2_with (go_at_call 28; refine (width_any k _).mono ?_; rintro e w3 ⟨rfl, rfl⟩; rw [HK.out])
  obtain ⟨W0, hW0⟩ : ∃ W0, w.alloc (.cells #[.int .i64 0, .string { data := #[] }] 23) = W0 := ⟨_, rfl⟩
  rw [hW0]
  have hb0 : Below w.heap.size w W0 := by rw [← hW0]; exact (Below.refl _ _).alloc (Nat.le_refl _) _
  have hz0 : W0.heap.size = w.heap.size + 1 := by rw [← hW0]; simp
  have c0 : W0.cell? ⟨w.heap.size, 0, none⟩ = some (.int .i64 0) := by rw [← hW0]; simp [go_sem]
  have c1 : W0.cell? ⟨w.heap.size, 1, none⟩ = some (.string { data := #[] }) := by rw [← hW0]; simp [go_sem]
  have z0 : W0.frozen? ⟨w.heap.size, 0, none⟩ = false := by rw [← hW0]; simp [go_sem]
  have z1 : W0.frozen? ⟨w.heap.size, 1, none⟩ = false := by rw [← hW0]; simp [go_sem]
  clear hW0
  have HC := Lib.hid (And.intro c0 (And.intro c1 (And.intro z0 z1)))
  clear c0 c1 z0 z1
  obtain ⟨N0, hN0⟩ : ∃ N0, w.heap.size + 1 = N0 := ⟨_, rfl⟩
  rw [hN0] at hz0
  have HZ := Lib.hid hz0; have HN0 := Lib.hid hN0; have HB0 := Lib.hid hb0
  have hzle : N0 ≤ W0.heap.size := Nat.le_of_eq hz0.symm
  clear hz0 hN0 hb0
  go_loopw [7, 8] (fun o i wr => ∃ (j ii : Nat), i = .int .i64 ii ∧ Hid (ii = j * 2) ∧ ii ≤ n ∧ wr.ownsRow N0 5 1 o (unitsTo 2 c j).length (Lib.byteCells (unitsTo 2 c j)) ∧ Below N0 W0 wr)
    (fun _ i _ => n - (intOf i).toNat)
  case atStart => exact ⟨0, 0, rfl, Lib.hid (by omega), by omega, World.ownsRow_nil _ _ _ _, Below.refl _ _⟩
  case round =>
    obtain ⟨j, ii, rfl, hii, hin, hown, hbr⟩ := hrel
    have hul := unitsTo_len 2 c j
    have hsz : N0 ≤ wr.heap.size := Nat.le_trans hzle hbr.size
    obtain ⟨U, hU⟩ : ∃ U, unitsTo 2 c j = U := ⟨_, rfl⟩
    rw [hU] at hown hul
    have HU := Lib.hid hU; clear hU
    have hj4 : j ≤ 1000000 := by have := hii.out; omega
    by_cases hlt : ii + 2 ≤ n
    · have d : decide ((ii : Int) + 2 ≤ (n : Int)) = true := by rw [decide_eq_true_iff]; omega
      go_wp2
      go_loop [9, 10] (fun x q => ∃ (q' x' : Nat), q = .int .i64 q' ∧ x = .int .i64 x' ∧ q' ≤ 2 ∧ Hid (x' = numAt c ii q') ∧ x' < 4294967296)
        (fun _ q => 2 - (intOf q).toNat)
      case atStart => exact ⟨0, 0, rfl, rfl, by omega, Lib.hid rfl, by omega⟩
      case round =>
        obtain ⟨q, x, rfl, rfl, hq, hx, hxl⟩ := hrel
        by_cases hql : q < 2
        · have hcl : c.length = n := HN.out
          obtain ⟨y, hy⟩ : ∃ y : Nat, (c.getD (ii + q) 0).toNat = y := ⟨_, rfl⟩
          obtain ⟨bb, oo, rfl, -, hcell⟩ := HQ.out (ii + q) (.int .u8 y) (by rw [byteCells_get, ← hy, List.getD_eq_getElem?_getD, List.getElem?_eq_getElem (show ii + q < c.length by omega)]; rfl)
          have hlt0 := lt_of_cell hcell
          have hcr : wr.cell? ⟨bb, oo + (ii + q), none⟩ = some (.int .u8 y) := (hbr.cell (p := ⟨bb, oo + (ii + q), none⟩) (by have := HN0.out; simp only [] at hlt0 ⊢; omega)).trans ((HB0.out.cell (p := ⟨bb, oo + (ii + q), none⟩) hlt0).trans hcell)
          have hy2 : y < 256 := by rw [← hy]; exact (c.getD (ii + q) 0).toNat_lt
          have hstep : x * 256 + y = numAt c ii (q + 1) := by rw [numAt, ← hx.out, hy]
          have hbd : x * 256 + y < 4294967296 := by
            rw [hstep]
            exact Nat.lt_of_lt_of_le (numAt_lt c ii (q + 1)) (by have h := Nat.pow_le_pow_right (n := 256) (by omega) (show q + 1 ≤ 4 by omega); exact h)
          have HS := Lib.hid hstep
          clear hstep hy hcell hlt0 hcl
          have e1 : (0 : Int) ≤ (ii : Int) + (q : Int) := by omega
          have e2 : (ii : Int) + (q : Int) < (n : Int) := by omega
          go_wp2
          go_round
          case rel => exact ⟨q + 1, x * 256 + y, by go_num, by go_num, by omega, Lib.hid HS.out, hbd⟩
          case measure => simp [intOf]; omega
        · have hqW : q = 2 := by omega
          subst hqW
          have HX := Lib.hid hx.out; clear hx
          go_wp2_with (first | (go_at_call 35; refine (Octets_any x (by omega) _).mono ?_; rintro e w4 ⟨v, rfl, hrd, hb5⟩; have hl5 := octs_len4 x; have hown5 := owns_below hown hb5; clear hown; have hbr5 := hbr.trans (hb5.mono hsz); clear hbr hb5; have hs5 := hbr5.size) | (at_builtin; refine wpList_append_rd rfl _ _ 31 rfl byteElem hbr5 (by omega) hown5 rfl hrd rfl ?_ ?_ ?_ ?_; (intro u hu; simp only [Lib.byteCells, List.mem_map] at hu; obtain ⟨y, _, rfl⟩ := hu; rfl); (unfold maxLen; omega); omega; rintro v' w5 hown6 hb4 - - - -; clear hown5 hbr5 hrd))
          go_roundw
          case rel => exact ⟨j + 1, ii + 2, by go_num, Lib.hid (by have := hii.out; omega), by omega, by rw [unitsTo_succ, HU.out, ← hii.out, ← HX.out]; exact rd_append_bytes hown6, hb4⟩
          case measure => simp [intOf]; omega
    · have d : decide ((ii : Int) + 2 ≤ (n : Int)) = false := by rw [decide_eq_false_iff_not]; omega
      have hUL : U = L := by
        rw [← HL.out, ← HU.out]
        unfold decB
        rw [HK.out, if_neg (by decide)]
        congr 1
        have h1 := hii.out
        have h2 := HN.out
        show j = c.length / 2
        omega
      subst hUL
      have hcv := RdBytes.string (P := Tryd.prog) (RdRow.of_owns hown) 31 9 5 Tryd.underlying31 Tryd.underlying5 Tryd.underlying9
      have hbw : Below w.heap.size w wr := HB0.out.trans (hbr.mono (by have := HN0.out; omega))
      have hUs : (⟨U.toArray⟩ : ByteArray).size ≤ 16777216 := by rw [show (⟨U.toArray⟩ : ByteArray).size = U.length from by simp [ByteArray.size]]; omega
      have HUS := Lib.hid hUs; have HBW := Lib.hid hbw; have HBR := Lib.hid hbr; have HUL := Lib.hid hul
      have hzw : w.heap.size < wr.heap.size := by have := HN0.out; omega
      clear hUs hbw hbr hul hown
      go_wp2_with fail
      refine (rEncode_any k ⟨U.toArray⟩ HUS.out _).mono ?_
      rintro e w5 ⟨vb, rfl, rb, hb⟩
      rw [show (⟨U.toArray⟩ : ByteArray).data.toList = U from by simp, HCC.out]
      rw [show (⟨U.toArray⟩ : ByteArray).data.toList = U from by simp, HE.out] at rb
      have r0 : w5.cell? ⟨w.heap.size, 0, none⟩ = some (.int .i64 0) := (hb.cell (p := ⟨w.heap.size, 0, none⟩) (by simp; omega)).trans ((World.cell?_alloc_past _ _ _ hzw).trans ((HBR.out.cell (p := ⟨w.heap.size, 0, none⟩) (by have := HN0.out; simp only []; omega)).trans HC.out.1))
      have r1 : w5.cell? ⟨w.heap.size, 1, none⟩ = some (.string { data := #[] }) := (hb.cell (p := ⟨w.heap.size, 1, none⟩) (by simp; omega)).trans ((World.cell?_alloc_past _ _ _ hzw).trans ((HBR.out.cell (p := ⟨w.heap.size, 1, none⟩) (by have := HN0.out; simp only []; omega)).trans HC.out.2.1))
      have q0 : w5.frozen? ⟨w.heap.size, 0, none⟩ = false := (hb.frozen (p := ⟨w.heap.size, 0, none⟩) (by simp; omega)).trans ((World.frozen?_alloc_past _ _ _ hzw).trans ((HBR.out.frozen (p := ⟨w.heap.size, 0, none⟩) (by have := HN0.out; simp only []; omega)).trans HC.out.2.2.1))
      have q1 : w5.frozen? ⟨w.heap.size, 1, none⟩ = false := (hb.frozen (p := ⟨w.heap.size, 1, none⟩) (by simp; omega)).trans ((World.frozen?_alloc_past _ _ _ hzw).trans ((HBR.out.frozen (p := ⟨w.heap.size, 1, none⟩) (by have := HN0.out; simp only []; omega)).trans HC.out.2.2.2))
      have t0 : w5.cell? ⟨wr.heap.size, 0, none⟩ = some (.int .i64 k) := (hb.cell (p := ⟨wr.heap.size, 0, none⟩) (by simp)).trans (by simp [go_sem])
      have t1 : w5.cell? ⟨wr.heap.size, 1, none⟩ = some (.string ⟨U.toArray⟩) := (hb.cell (p := ⟨wr.heap.size, 1, none⟩) (by simp)).trans (by simp [go_sem])
      have hb5 : Below w.heap.size w w5 := (HBW.out.alloc (by omega) _).trans (hb.mono (by simp; omega))
      have HB5 := Lib.hid hb5; have hz5 := lt_of_cell r0; have RB := Lib.hid rb
      clear hb hb5 rb hzw
      go_wp2_with fail
      refine (Bytes_any _ _ _ _ _ E c RB.out (HRD.out.below HB5.out)).mono ?_
      rintro e w6 ⟨rfl, rfl⟩
      rw [HEE.out]
      go_wp2
      have hts := two_stored r0 r1 (.int .i64 0) (.string { data := #[] })
      refine ret_two Tryd.results14 ⟨_, rfl, loadVar_cells _ _ _ 0 [.int .i64 0, .string { data := #[] }] _ Tryd.underlying23 rfl (by kernel_rfl) (cells2 hts.1 hts.2)⟩ rfl rfl ⟨?_, ?_⟩
      · unfold decK decV decC; simp [HK.out, HOK.out]
      · exact (by (repeat (first | exact HB5.out | refine Below.setCell ?_ ?_ _ | refine Below.alloc ?_ ?_ _ | refine Below.drew ?_)) <;> first | omega | (simp; done) | (simp; omega))

set_option maxRecDepth 100000 in
set_option maxHeartbeats 4000000 in
theorem rDec_2C (k : Int) (S : Nat → Prop) (v : Value) (c : List UInt8) (w : World) (hrd : RdBytes S w v c) (hs : c.length ≤ 1000000) (hk : widthS k = 2) (L : List UInt8) (hL : decB k c = L) (h1 : validS k L = false) :
    Calls Tryd.prog 14 #[.int .i64 k, v] w (DecPost k c w) := by
  have hok : okD k c = false := by unfold okD; rw [hL]; simp [h1]
  have hLs : L.length ≤ 4000000 := by rw [← hL]; exact decB_len k c hs
  obtain ⟨E, hE⟩ : ∃ E, encR k L = E := ⟨_, rfl⟩
  obtain ⟨Cc, hCc⟩ : ∃ Cc, encC k L = Cc := ⟨_, rfl⟩
  have hCv : Cc = 8 := by rw [← hCc]; unfold encC; rw [h1]; rfl
  subst hCv
  have hdL : decB k c = L := hL
  have HOK := Lib.hid hok; have HE := Lib.hid hE; have HCC := Lib.hid hCc; have HK := Lib.hid hk; have HL := Lib.hid hdL
  clear hok hE hCc hk hL hdL
  obtain ⟨a, cp, rfl, hq1, hq2, hq3, hq4⟩ := hrd
  obtain ⟨n, hn⟩ : ∃ n, c.length = n := ⟨_, rfl⟩
  rw [hn] at hq1 hq3 hs ⊢
  have HN := Lib.hid hn; have HQ := Lib.hid hq4; have HQ3 := Lib.hid hq3
  clear hn hq4 hq3
  have hnm : (n : Int) ≤ 9223372036854775807 := by omega
  have hrd0 : RdBytes S w (.slice a n cp) c := ⟨a, cp, by rw [HN.out], by rw [HN.out]; exact hq1, hq2, by rw [HN.out]; exact HQ3.out, HQ.out⟩
  have HRD := Lib.hid hrd0; clear hrd0
  go_enter Tryd.func14, Tryd.ntmps14
  go_wp2_with (go_at_call 28; refine (width_any k _).mono ?_; rintro e w3 ⟨rfl, rfl⟩; rw [HK.out])
  obtain ⟨W0, hW0⟩ : ∃ W0, w.alloc (.cells #[.int .i64 0, .string { data := #[] }] 23) = W0 := ⟨_, rfl⟩
  rw [hW0]
  have hb0 : Below w.heap.size w W0 := by rw [← hW0]; exact (Below.refl _ _).alloc (Nat.le_refl _) _
  have hz0 : W0.heap.size = w.heap.size + 1 := by rw [← hW0]; simp
  have c0 : W0.cell? ⟨w.heap.size, 0, none⟩ = some (.int .i64 0) := by rw [← hW0]; simp [go_sem]
  have c1 : W0.cell? ⟨w.heap.size, 1, none⟩ = some (.string { data := #[] }) := by rw [← hW0]; simp [go_sem]
  have z0 : W0.frozen? ⟨w.heap.size, 0, none⟩ = false := by rw [← hW0]; simp [go_sem]
  have z1 : W0.frozen? ⟨w.heap.size, 1, none⟩ = false := by rw [← hW0]; simp [go_sem]
  clear hW0
  have HC := Lib.hid (And.intro c0 (And.intro c1 (And.intro z0 z1)))
  clear c0 c1 z0 z1
  obtain ⟨N0, hN0⟩ : ∃ N0, w.heap.size + 1 = N0 := ⟨_, rfl⟩
  rw [hN0] at hz0
  have HZ := Lib.hid hz0; have HN0 := Lib.hid hN0; have HB0 := Lib.hid hb0
  have hzle : N0 ≤ W0.heap.size := Nat.le_of_eq hz0.symm
  clear hz0 hN0 hb0
  go_loopw [7, 8] (fun o i wr => ∃ (j ii : Nat), i = .int .i64 ii ∧ Hid (ii = j * 2) ∧ ii ≤ n ∧ wr.ownsRow N0 5 1 o (unitsTo 2 c j).length (Lib.byteCells (unitsTo 2 c j)) ∧ Below N0 W0 wr)
    (fun _ i _ => n - (intOf i).toNat)
  case atStart => exact ⟨0, 0, rfl, Lib.hid (by omega), by omega, World.ownsRow_nil _ _ _ _, Below.refl _ _⟩
  case round =>
    obtain ⟨j, ii, rfl, hii, hin, hown, hbr⟩ := hrel
    have hul := unitsTo_len 2 c j
    have hsz : N0 ≤ wr.heap.size := Nat.le_trans hzle hbr.size
    obtain ⟨U, hU⟩ : ∃ U, unitsTo 2 c j = U := ⟨_, rfl⟩
    rw [hU] at hown hul
    have HU := Lib.hid hU; clear hU
    have hj4 : j ≤ 1000000 := by have := hii.out; omega
    by_cases hlt : ii + 2 ≤ n
    · have d : decide ((ii : Int) + 2 ≤ (n : Int)) = true := by rw [decide_eq_true_iff]; omega
      go_wp2
      go_loop [9, 10] (fun x q => ∃ (q' x' : Nat), q = .int .i64 q' ∧ x = .int .i64 x' ∧ q' ≤ 2 ∧ Hid (x' = numAt c ii q') ∧ x' < 4294967296)
        (fun _ q => 2 - (intOf q).toNat)
      case atStart => exact ⟨0, 0, rfl, rfl, by omega, Lib.hid rfl, by omega⟩
      case round =>
        obtain ⟨q, x, rfl, rfl, hq, hx, hxl⟩ := hrel
        by_cases hql : q < 2
        · have hcl : c.length = n := HN.out
          obtain ⟨y, hy⟩ : ∃ y : Nat, (c.getD (ii + q) 0).toNat = y := ⟨_, rfl⟩
          obtain ⟨bb, oo, rfl, -, hcell⟩ := HQ.out (ii + q) (.int .u8 y) (by rw [byteCells_get, ← hy, List.getD_eq_getElem?_getD, List.getElem?_eq_getElem (show ii + q < c.length by omega)]; rfl)
          have hlt0 := lt_of_cell hcell
          have hcr : wr.cell? ⟨bb, oo + (ii + q), none⟩ = some (.int .u8 y) := (hbr.cell (p := ⟨bb, oo + (ii + q), none⟩) (by have := HN0.out; simp only [] at hlt0 ⊢; omega)).trans ((HB0.out.cell (p := ⟨bb, oo + (ii + q), none⟩) hlt0).trans hcell)
          have hy2 : y < 256 := by rw [← hy]; exact (c.getD (ii + q) 0).toNat_lt
          have hstep : x * 256 + y = numAt c ii (q + 1) := by rw [numAt, ← hx.out, hy]
          have hbd : x * 256 + y < 4294967296 := by
            rw [hstep]
            exact Nat.lt_of_lt_of_le (numAt_lt c ii (q + 1)) (by have h := Nat.pow_le_pow_right (n := 256) (by omega) (show q + 1 ≤ 4 by omega); exact h)
          have HS := Lib.hid hstep
          clear hstep hy hcell hlt0 hcl
          have e1 : (0 : Int) ≤ (ii : Int) + (q : Int) := by omega
          have e2 : (ii : Int) + (q : Int) < (n : Int) := by omega
          go_wp2
          go_round
          case rel => exact ⟨q + 1, x * 256 + y, by go_num, by go_num, by omega, Lib.hid HS.out, hbd⟩
          case measure => simp [intOf]; omega
        · have hqW : q = 2 := by omega
          subst hqW
          have HX := Lib.hid hx.out; clear hx
          go_wp2_with (first | (go_at_call 35; refine (Octets_any x (by omega) _).mono ?_; rintro e w4 ⟨v, rfl, hrd, hb5⟩; have hl5 := octs_len4 x; have hown5 := owns_below hown hb5; clear hown; have hbr5 := hbr.trans (hb5.mono hsz); clear hbr hb5; have hs5 := hbr5.size) | (at_builtin; refine wpList_append_rd rfl _ _ 31 rfl byteElem hbr5 (by omega) hown5 rfl hrd rfl ?_ ?_ ?_ ?_; (intro u hu; simp only [Lib.byteCells, List.mem_map] at hu; obtain ⟨y, _, rfl⟩ := hu; rfl); (unfold maxLen; omega); omega; rintro v' w5 hown6 hb4 - - - -; clear hown5 hbr5 hrd))
          go_roundw
          case rel => exact ⟨j + 1, ii + 2, by go_num, Lib.hid (by have := hii.out; omega), by omega, by rw [unitsTo_succ, HU.out, ← hii.out, ← HX.out]; exact rd_append_bytes hown6, hb4⟩
          case measure => simp [intOf]; omega
    · have d : decide ((ii : Int) + 2 ≤ (n : Int)) = false := by rw [decide_eq_false_iff_not]; omega
      have hUL : U = L := by
        rw [← HL.out, ← HU.out]
        unfold decB
        rw [HK.out, if_neg (by decide)]
        congr 1
        have h1 := hii.out
        have h2 := HN.out
        show j = c.length / 2
        omega
      subst hUL
      have hcv := RdBytes.string (P := Tryd.prog) (RdRow.of_owns hown) 31 9 5 Tryd.underlying31 Tryd.underlying5 Tryd.underlying9
      have hbw : Below w.heap.size w wr := HB0.out.trans (hbr.mono (by have := HN0.out; omega))
      have hUs : (⟨U.toArray⟩ : ByteArray).size ≤ 16777216 := by rw [show (⟨U.toArray⟩ : ByteArray).size = U.length from by simp [ByteArray.size]]; omega
      have HUS := Lib.hid hUs; have HBW := Lib.hid hbw; have HBR := Lib.hid hbr; have HUL := Lib.hid hul
      have hzw : w.heap.size < wr.heap.size := by have := HN0.out; omega
      clear hUs hbw hbr hul hown
      go_wp2_with fail
      refine (rEncode_any k ⟨U.toArray⟩ HUS.out _).mono ?_
      rintro e w5 ⟨vb, rfl, rb, hb⟩
      rw [show (⟨U.toArray⟩ : ByteArray).data.toList = U from by simp, HCC.out]
      rw [show (⟨U.toArray⟩ : ByteArray).data.toList = U from by simp, HE.out] at rb
      have r0 : w5.cell? ⟨w.heap.size, 0, none⟩ = some (.int .i64 0) := (hb.cell (p := ⟨w.heap.size, 0, none⟩) (by simp; omega)).trans ((World.cell?_alloc_past _ _ _ hzw).trans ((HBR.out.cell (p := ⟨w.heap.size, 0, none⟩) (by have := HN0.out; simp only []; omega)).trans HC.out.1))
      have r1 : w5.cell? ⟨w.heap.size, 1, none⟩ = some (.string { data := #[] }) := (hb.cell (p := ⟨w.heap.size, 1, none⟩) (by simp; omega)).trans ((World.cell?_alloc_past _ _ _ hzw).trans ((HBR.out.cell (p := ⟨w.heap.size, 1, none⟩) (by have := HN0.out; simp only []; omega)).trans HC.out.2.1))
      have q0 : w5.frozen? ⟨w.heap.size, 0, none⟩ = false := (hb.frozen (p := ⟨w.heap.size, 0, none⟩) (by simp; omega)).trans ((World.frozen?_alloc_past _ _ _ hzw).trans ((HBR.out.frozen (p := ⟨w.heap.size, 0, none⟩) (by have := HN0.out; simp only []; omega)).trans HC.out.2.2.1))
      have q1 : w5.frozen? ⟨w.heap.size, 1, none⟩ = false := (hb.frozen (p := ⟨w.heap.size, 1, none⟩) (by simp; omega)).trans ((World.frozen?_alloc_past _ _ _ hzw).trans ((HBR.out.frozen (p := ⟨w.heap.size, 1, none⟩) (by have := HN0.out; simp only []; omega)).trans HC.out.2.2.2))
      have t0 : w5.cell? ⟨wr.heap.size, 0, none⟩ = some (.int .i64 k) := (hb.cell (p := ⟨wr.heap.size, 0, none⟩) (by simp)).trans (by simp [go_sem])
      have t1 : w5.cell? ⟨wr.heap.size, 1, none⟩ = some (.string ⟨U.toArray⟩) := (hb.cell (p := ⟨wr.heap.size, 1, none⟩) (by simp)).trans (by simp [go_sem])
      have hb5 : Below w.heap.size w w5 := (HBW.out.alloc (by omega) _).trans (hb.mono (by simp; omega))
      have HB5 := Lib.hid hb5; have hz5 := lt_of_cell r0; have RB := Lib.hid rb
      clear hb hb5 rb hzw
      go_wp2
      have hts := two_stored r0 r1 (.int .i64 0) (.string { data := #[] })
      refine ret_two Tryd.results14 ⟨_, rfl, loadVar_cells _ _ _ 0 [.int .i64 0, .string { data := #[] }] _ Tryd.underlying23 rfl (by kernel_rfl) (cells2 hts.1 hts.2)⟩ rfl rfl ⟨?_, ?_⟩
      · unfold decK decV decC; simp [HK.out, HOK.out]
      · exact (by (repeat (first | exact HB5.out | refine Below.setCell ?_ ?_ _ | refine Below.alloc ?_ ?_ _ | refine Below.drew ?_)) <;> first | omega | (simp; done) | (simp; omega))

set_option maxRecDepth 100000 in
set_option maxHeartbeats 4000000 in
theorem rDec_4A (k : Int) (S : Nat → Prop) (v : Value) (c : List UInt8) (w : World) (hrd : RdBytes S w v c) (hs : c.length ≤ 1000000) (hk : widthS k = 4) (L : List UInt8) (hL : decB k c = L) (h1 : validS k L = true) (h2 : encS k L = c) :
    Calls Tryd.prog 14 #[.int .i64 k, v] w (DecPost k c w) := by
  have hok : okD k c = true := by unfold okD; rw [hL]; simp [h1, h2]
  have hLs : L.length ≤ 4000000 := by rw [← hL]; exact decB_len k c hs
  obtain ⟨E, hE⟩ : ∃ E, encR k L = E := ⟨_, rfl⟩
  obtain ⟨Cc, hCc⟩ : ∃ Cc, encC k L = Cc := ⟨_, rfl⟩
  have hCv : Cc = 0 := by rw [← hCc]; unfold encC; rw [h1]; rfl
  subst hCv
  have hEe : (E == c) = true := by rw [← hE]; unfold encR; rw [h1, if_pos rfl]; simp [h2]
  have hdL : decB k c = L := hL
  have HOK := Lib.hid hok; have HE := Lib.hid hE; have HCC := Lib.hid hCc; have HK := Lib.hid hk; have HL := Lib.hid hdL; have HEE := Lib.hid hEe; have H2 := Lib.hid h2
  clear hok hE hCc hk hL hdL hEe h2
  obtain ⟨a, cp, rfl, hq1, hq2, hq3, hq4⟩ := hrd
  obtain ⟨n, hn⟩ : ∃ n, c.length = n := ⟨_, rfl⟩
  rw [hn] at hq1 hq3 hs ⊢
  have HN := Lib.hid hn; have HQ := Lib.hid hq4; have HQ3 := Lib.hid hq3
  clear hn hq4 hq3
  have hnm : (n : Int) ≤ 9223372036854775807 := by omega
  have hrd0 : RdBytes S w (.slice a n cp) c := ⟨a, cp, by rw [HN.out], by rw [HN.out]; exact hq1, hq2, by rw [HN.out]; exact HQ3.out, HQ.out⟩
  have HRD := Lib.hid hrd0; clear hrd0
  go_enter Tryd.func14, Tryd.ntmps14
  go_wp2_with (go_at_call 28; refine (width_any k _).mono ?_; rintro e w3 ⟨rfl, rfl⟩; rw [HK.out])
  obtain ⟨W0, hW0⟩ : ∃ W0, w.alloc (.cells #[.int .i64 0, .string { data := #[] }] 23) = W0 := ⟨_, rfl⟩
  rw [hW0]
  have hb0 : Below w.heap.size w W0 := by rw [← hW0]; exact (Below.refl _ _).alloc (Nat.le_refl _) _
  have hz0 : W0.heap.size = w.heap.size + 1 := by rw [← hW0]; simp
  have c0 : W0.cell? ⟨w.heap.size, 0, none⟩ = some (.int .i64 0) := by rw [← hW0]; simp [go_sem]
  have c1 : W0.cell? ⟨w.heap.size, 1, none⟩ = some (.string { data := #[] }) := by rw [← hW0]; simp [go_sem]
  have z0 : W0.frozen? ⟨w.heap.size, 0, none⟩ = false := by rw [← hW0]; simp [go_sem]
  have z1 : W0.frozen? ⟨w.heap.size, 1, none⟩ = false := by rw [← hW0]; simp [go_sem]
  clear hW0
  have HC := Lib.hid (And.intro c0 (And.intro c1 (And.intro z0 z1)))
  clear c0 c1 z0 z1
  obtain ⟨N0, hN0⟩ : ∃ N0, w.heap.size + 1 = N0 := ⟨_, rfl⟩
  rw [hN0] at hz0
  have HZ := Lib.hid hz0; have HN0 := Lib.hid hN0; have HB0 := Lib.hid hb0
  have hzle : N0 ≤ W0.heap.size := Nat.le_of_eq hz0.symm
  clear hz0 hN0 hb0
  go_loopw [7, 8] (fun o i wr => ∃ (j ii : Nat), i = .int .i64 ii ∧ Hid (ii = j * 4) ∧ ii ≤ n ∧ wr.ownsRow N0 5 1 o (unitsTo 4 c j).length (Lib.byteCells (unitsTo 4 c j)) ∧ Below N0 W0 wr)
    (fun _ i _ => n - (intOf i).toNat)
  case atStart => exact ⟨0, 0, rfl, Lib.hid (by omega), by omega, World.ownsRow_nil _ _ _ _, Below.refl _ _⟩
  case round =>
    obtain ⟨j, ii, rfl, hii, hin, hown, hbr⟩ := hrel
    have hul := unitsTo_len 4 c j
    have hsz : N0 ≤ wr.heap.size := Nat.le_trans hzle hbr.size
    obtain ⟨U, hU⟩ : ∃ U, unitsTo 4 c j = U := ⟨_, rfl⟩
    rw [hU] at hown hul
    have HU := Lib.hid hU; clear hU
    have hj4 : j ≤ 1000000 := by have := hii.out; omega
    by_cases hlt : ii + 4 ≤ n
    · have d : decide ((ii : Int) + 4 ≤ (n : Int)) = true := by rw [decide_eq_true_iff]; omega
      go_wp2
      go_loop [9, 10] (fun x q => ∃ (q' x' : Nat), q = .int .i64 q' ∧ x = .int .i64 x' ∧ q' ≤ 4 ∧ Hid (x' = numAt c ii q') ∧ x' < 4294967296)
        (fun _ q => 4 - (intOf q).toNat)
      case atStart => exact ⟨0, 0, rfl, rfl, by omega, Lib.hid rfl, by omega⟩
      case round =>
        obtain ⟨q, x, rfl, rfl, hq, hx, hxl⟩ := hrel
        by_cases hql : q < 4
        · have hcl : c.length = n := HN.out
          obtain ⟨y, hy⟩ : ∃ y : Nat, (c.getD (ii + q) 0).toNat = y := ⟨_, rfl⟩
          obtain ⟨bb, oo, rfl, -, hcell⟩ := HQ.out (ii + q) (.int .u8 y) (by rw [byteCells_get, ← hy, List.getD_eq_getElem?_getD, List.getElem?_eq_getElem (show ii + q < c.length by omega)]; rfl)
          have hlt0 := lt_of_cell hcell
          have hcr : wr.cell? ⟨bb, oo + (ii + q), none⟩ = some (.int .u8 y) := (hbr.cell (p := ⟨bb, oo + (ii + q), none⟩) (by have := HN0.out; simp only [] at hlt0 ⊢; omega)).trans ((HB0.out.cell (p := ⟨bb, oo + (ii + q), none⟩) hlt0).trans hcell)
          have hy2 : y < 256 := by rw [← hy]; exact (c.getD (ii + q) 0).toNat_lt
          have hstep : x * 256 + y = numAt c ii (q + 1) := by rw [numAt, ← hx.out, hy]
          have hbd : x * 256 + y < 4294967296 := by
            rw [hstep]
            exact Nat.lt_of_lt_of_le (numAt_lt c ii (q + 1)) (by have h := Nat.pow_le_pow_right (n := 256) (by omega) (show q + 1 ≤ 4 by omega); exact h)
          have HS := Lib.hid hstep
          clear hstep hy hcell hlt0 hcl
          have e1 : (0 : Int) ≤ (ii : Int) + (q : Int) := by omega
          have e2 : (ii : Int) + (q : Int) < (n : Int) := by omega
          go_wp2
          go_round
          case rel => exact ⟨q + 1, x * 256 + y, by go_num, by go_num, by omega, Lib.hid HS.out, hbd⟩
          case measure => simp [intOf]; omega
        · have hqW : q = 4 := by omega
          subst hqW
          have HX := Lib.hid hx.out; clear hx
          go_wp2_with (first | (go_at_call 35; refine (Octets_any x (by omega) _).mono ?_; rintro e w4 ⟨v, rfl, hrd, hb5⟩; have hl5 := octs_len4 x; have hown5 := owns_below hown hb5; clear hown; have hbr5 := hbr.trans (hb5.mono hsz); clear hbr hb5; have hs5 := hbr5.size) | (at_builtin; refine wpList_append_rd rfl _ _ 31 rfl byteElem hbr5 (by omega) hown5 rfl hrd rfl ?_ ?_ ?_ ?_; (intro u hu; simp only [Lib.byteCells, List.mem_map] at hu; obtain ⟨y, _, rfl⟩ := hu; rfl); (unfold maxLen; omega); omega; rintro v' w5 hown6 hb4 - - - -; clear hown5 hbr5 hrd))
          go_roundw
          case rel => exact ⟨j + 1, ii + 4, by go_num, Lib.hid (by have := hii.out; omega), by omega, by rw [unitsTo_succ, HU.out, ← hii.out, ← HX.out]; exact rd_append_bytes hown6, hb4⟩
          case measure => simp [intOf]; omega
    · have d : decide ((ii : Int) + 4 ≤ (n : Int)) = false := by rw [decide_eq_false_iff_not]; omega
      have hUL : U = L := by
        rw [← HL.out, ← HU.out]
        unfold decB
        rw [HK.out, if_neg (by decide)]
        congr 1
        have h1 := hii.out
        have h2 := HN.out
        show j = c.length / 4
        omega
      subst hUL
      have hcv := RdBytes.string (P := Tryd.prog) (RdRow.of_owns hown) 31 9 5 Tryd.underlying31 Tryd.underlying5 Tryd.underlying9
      have hbw : Below w.heap.size w wr := HB0.out.trans (hbr.mono (by have := HN0.out; omega))
      have hUs : (⟨U.toArray⟩ : ByteArray).size ≤ 16777216 := by rw [show (⟨U.toArray⟩ : ByteArray).size = U.length from by simp [ByteArray.size]]; omega
      have HUS := Lib.hid hUs; have HBW := Lib.hid hbw; have HBR := Lib.hid hbr; have HUL := Lib.hid hul
      have hzw : w.heap.size < wr.heap.size := by have := HN0.out; omega
      clear hUs hbw hbr hul hown
      go_wp2_with fail
      refine (rEncode_any k ⟨U.toArray⟩ HUS.out _).mono ?_
      rintro e w5 ⟨vb, rfl, rb, hb⟩
      rw [show (⟨U.toArray⟩ : ByteArray).data.toList = U from by simp, HCC.out]
      rw [show (⟨U.toArray⟩ : ByteArray).data.toList = U from by simp, HE.out] at rb
      have r0 : w5.cell? ⟨w.heap.size, 0, none⟩ = some (.int .i64 0) := (hb.cell (p := ⟨w.heap.size, 0, none⟩) (by simp; omega)).trans ((World.cell?_alloc_past _ _ _ hzw).trans ((HBR.out.cell (p := ⟨w.heap.size, 0, none⟩) (by have := HN0.out; simp only []; omega)).trans HC.out.1))
      have r1 : w5.cell? ⟨w.heap.size, 1, none⟩ = some (.string { data := #[] }) := (hb.cell (p := ⟨w.heap.size, 1, none⟩) (by simp; omega)).trans ((World.cell?_alloc_past _ _ _ hzw).trans ((HBR.out.cell (p := ⟨w.heap.size, 1, none⟩) (by have := HN0.out; simp only []; omega)).trans HC.out.2.1))
      have q0 : w5.frozen? ⟨w.heap.size, 0, none⟩ = false := (hb.frozen (p := ⟨w.heap.size, 0, none⟩) (by simp; omega)).trans ((World.frozen?_alloc_past _ _ _ hzw).trans ((HBR.out.frozen (p := ⟨w.heap.size, 0, none⟩) (by have := HN0.out; simp only []; omega)).trans HC.out.2.2.1))
      have q1 : w5.frozen? ⟨w.heap.size, 1, none⟩ = false := (hb.frozen (p := ⟨w.heap.size, 1, none⟩) (by simp; omega)).trans ((World.frozen?_alloc_past _ _ _ hzw).trans ((HBR.out.frozen (p := ⟨w.heap.size, 1, none⟩) (by have := HN0.out; simp only []; omega)).trans HC.out.2.2.2))
      have t0 : w5.cell? ⟨wr.heap.size, 0, none⟩ = some (.int .i64 k) := (hb.cell (p := ⟨wr.heap.size, 0, none⟩) (by simp)).trans (by simp [go_sem])
      have t1 : w5.cell? ⟨wr.heap.size, 1, none⟩ = some (.string ⟨U.toArray⟩) := (hb.cell (p := ⟨wr.heap.size, 1, none⟩) (by simp)).trans (by simp [go_sem])
      have hb5 : Below w.heap.size w w5 := (HBW.out.alloc (by omega) _).trans (hb.mono (by simp; omega))
      have HB5 := Lib.hid hb5; have hz5 := lt_of_cell r0; have RB := Lib.hid rb
      clear hb hb5 rb hzw
      go_wp2_with fail
      refine (Bytes_any _ _ _ _ _ E c RB.out (HRD.out.below HB5.out)).mono ?_
      rintro e w6 ⟨rfl, rfl⟩
      rw [HEE.out]
      go_wp2
      have hts := two_stored r0 r1 (.int .i64 k) (.string ⟨U.toArray⟩)
      refine ret_two Tryd.results14 ⟨_, rfl, loadVar_cells _ _ _ 0 [.int .i64 k, .string ⟨U.toArray⟩] _ Tryd.underlying23 rfl (by kernel_rfl) (cells2 hts.1 hts.2)⟩ rfl rfl ⟨?_, ?_⟩
      · unfold decK decV decC; simp [HK.out, HOK.out, HL.out]
      · exact (by (repeat (first | exact HB5.out | refine Below.setCell ?_ ?_ _ | refine Below.alloc ?_ ?_ _ | refine Below.drew ?_)) <;> first | omega | (simp; done) | (simp; omega))

set_option maxRecDepth 100000 in
set_option maxHeartbeats 4000000 in
theorem rDec_4B (k : Int) (S : Nat → Prop) (v : Value) (c : List UInt8) (w : World) (hrd : RdBytes S w v c) (hs : c.length ≤ 1000000) (hk : widthS k = 4) (L : List UInt8) (hL : decB k c = L) (h1 : validS k L = true) (h2 : encS k L ≠ c) :
    Calls Tryd.prog 14 #[.int .i64 k, v] w (DecPost k c w) := by
  have hok : okD k c = false := by unfold okD; rw [hL]; simp [h1, h2]
  have hLs : L.length ≤ 4000000 := by rw [← hL]; exact decB_len k c hs
  obtain ⟨E, hE⟩ : ∃ E, encR k L = E := ⟨_, rfl⟩
  obtain ⟨Cc, hCc⟩ : ∃ Cc, encC k L = Cc := ⟨_, rfl⟩
  have hCv : Cc = 0 := by rw [← hCc]; unfold encC; rw [h1]; rfl
  subst hCv
  have hEe : (E == c) = false := by rw [← hE]; unfold encR; rw [h1, if_pos rfl]; simp [h2]
  have hdL : decB k c = L := hL
  have HOK := Lib.hid hok; have HE := Lib.hid hE; have HCC := Lib.hid hCc; have HK := Lib.hid hk; have HL := Lib.hid hdL; have HEE := Lib.hid hEe; have H2 := Lib.hid h2
  clear hok hE hCc hk hL hdL hEe h2
  obtain ⟨a, cp, rfl, hq1, hq2, hq3, hq4⟩ := hrd
  obtain ⟨n, hn⟩ : ∃ n, c.length = n := ⟨_, rfl⟩
  rw [hn] at hq1 hq3 hs ⊢
  have HN := Lib.hid hn; have HQ := Lib.hid hq4; have HQ3 := Lib.hid hq3
  clear hn hq4 hq3
  have hnm : (n : Int) ≤ 9223372036854775807 := by omega
  have hrd0 : RdBytes S w (.slice a n cp) c := ⟨a, cp, by rw [HN.out], by rw [HN.out]; exact hq1, hq2, by rw [HN.out]; exact HQ3.out, HQ.out⟩
  have HRD := Lib.hid hrd0; clear hrd0
  go_enter Tryd.func14, Tryd.ntmps14
  go_wp2_with (go_at_call 28; refine (width_any k _).mono ?_; rintro e w3 ⟨rfl, rfl⟩; rw [HK.out])
  obtain ⟨W0, hW0⟩ : ∃ W0, w.alloc (.cells #[.int .i64 0, .string { data := #[] }] 23) = W0 := ⟨_, rfl⟩
  rw [hW0]
  have hb0 : Below w.heap.size w W0 := by rw [← hW0]; exact (Below.refl _ _).alloc (Nat.le_refl _) _
  have hz0 : W0.heap.size = w.heap.size + 1 := by rw [← hW0]; simp
  have c0 : W0.cell? ⟨w.heap.size, 0, none⟩ = some (.int .i64 0) := by rw [← hW0]; simp [go_sem]
  have c1 : W0.cell? ⟨w.heap.size, 1, none⟩ = some (.string { data := #[] }) := by rw [← hW0]; simp [go_sem]
  have z0 : W0.frozen? ⟨w.heap.size, 0, none⟩ = false := by rw [← hW0]; simp [go_sem]
  have z1 : W0.frozen? ⟨w.heap.size, 1, none⟩ = false := by rw [← hW0]; simp [go_sem]
  clear hW0
  have HC := Lib.hid (And.intro c0 (And.intro c1 (And.intro z0 z1)))
  clear c0 c1 z0 z1
  obtain ⟨N0, hN0⟩ : ∃ N0, w.heap.size + 1 = N0 := ⟨_, rfl⟩
  rw [hN0] at hz0
  have HZ := Lib.hid hz0; have HN0 := Lib.hid hN0; have HB0 := Lib.hid hb0
  have hzle : N0 ≤ W0.heap.size := Nat.le_of_eq hz0.symm
  clear hz0 hN0 hb0
  go_loopw [7, 8] (fun o i wr => ∃ (j ii : Nat), i = .int .i64 ii ∧ Hid (ii = j * 4) ∧ ii ≤ n ∧ wr.ownsRow N0 5 1 o (unitsTo 4 c j).length (Lib.byteCells (unitsTo 4 c j)) ∧ Below N0 W0 wr)
    (fun _ i _ => n - (intOf i).toNat)
  case atStart => exact ⟨0, 0, rfl, Lib.hid (by omega), by omega, World.ownsRow_nil _ _ _ _, Below.refl _ _⟩
  case round =>
    obtain ⟨j, ii, rfl, hii, hin, hown, hbr⟩ := hrel
    have hul := unitsTo_len 4 c j
    have hsz : N0 ≤ wr.heap.size := Nat.le_trans hzle hbr.size
    obtain ⟨U, hU⟩ : ∃ U, unitsTo 4 c j = U := ⟨_, rfl⟩
    rw [hU] at hown hul
    have HU := Lib.hid hU; clear hU
    have hj4 : j ≤ 1000000 := by have := hii.out; omega
    by_cases hlt : ii + 4 ≤ n
    · have d : decide ((ii : Int) + 4 ≤ (n : Int)) = true := by rw [decide_eq_true_iff]; omega
      go_wp2
      go_loop [9, 10] (fun x q => ∃ (q' x' : Nat), q = .int .i64 q' ∧ x = .int .i64 x' ∧ q' ≤ 4 ∧ Hid (x' = numAt c ii q') ∧ x' < 4294967296)
        (fun _ q => 4 - (intOf q).toNat)
      case atStart => exact ⟨0, 0, rfl, rfl, by omega, Lib.hid rfl, by omega⟩
      case round =>
        obtain ⟨q, x, rfl, rfl, hq, hx, hxl⟩ := hrel
        by_cases hql : q < 4
        · have hcl : c.length = n := HN.out
          obtain ⟨y, hy⟩ : ∃ y : Nat, (c.getD (ii + q) 0).toNat = y := ⟨_, rfl⟩
          obtain ⟨bb, oo, rfl, -, hcell⟩ := HQ.out (ii + q) (.int .u8 y) (by rw [byteCells_get, ← hy, List.getD_eq_getElem?_getD, List.getElem?_eq_getElem (show ii + q < c.length by omega)]; rfl)
          have hlt0 := lt_of_cell hcell
          have hcr : wr.cell? ⟨bb, oo + (ii + q), none⟩ = some (.int .u8 y) := (hbr.cell (p := ⟨bb, oo + (ii + q), none⟩) (by have := HN0.out; simp only [] at hlt0 ⊢; omega)).trans ((HB0.out.cell (p := ⟨bb, oo + (ii + q), none⟩) hlt0).trans hcell)
          have hy2 : y < 256 := by rw [← hy]; exact (c.getD (ii + q) 0).toNat_lt
          have hstep : x * 256 + y = numAt c ii (q + 1) := by rw [numAt, ← hx.out, hy]
          have hbd : x * 256 + y < 4294967296 := by
            rw [hstep]
            exact Nat.lt_of_lt_of_le (numAt_lt c ii (q + 1)) (by have h := Nat.pow_le_pow_right (n := 256) (by omega) (show q + 1 ≤ 4 by omega); exact h)
          have HS := Lib.hid hstep
          clear hstep hy hcell hlt0 hcl
          have e1 : (0 : Int) ≤ (ii : Int) + (q : Int) := by omega
          have e2 : (ii : Int) + (q : Int) < (n : Int) := by omega
          go_wp2
          go_round
          case rel => exact ⟨q + 1, x * 256 + y, by go_num, by go_num, by omega, Lib.hid HS.out, hbd⟩
          case measure => simp [intOf]; omega
        · have hqW : q = 4 := by omega
          subst hqW
          have HX := Lib.hid hx.out; clear hx
          go_wp2_with (first | (go_at_call 35; refine (Octets_any x (by omega) _).mono ?_; rintro e w4 ⟨v, rfl, hrd, hb5⟩; have hl5 := octs_len4 x; have hown5 := owns_below hown hb5; clear hown; have hbr5 := hbr.trans (hb5.mono hsz); clear hbr hb5; have hs5 := hbr5.size) | (at_builtin; refine wpList_append_rd rfl _ _ 31 rfl byteElem hbr5 (by omega) hown5 rfl hrd rfl ?_ ?_ ?_ ?_; (intro u hu; simp only [Lib.byteCells, List.mem_map] at hu; obtain ⟨y, _, rfl⟩ := hu; rfl); (unfold maxLen; omega); omega; rintro v' w5 hown6 hb4 - - - -; clear hown5 hbr5 hrd))
          go_roundw
          case rel => exact ⟨j + 1, ii + 4, by go_num, Lib.hid (by have := hii.out; omega), by omega, by rw [unitsTo_succ, HU.out, ← hii.out, ← HX.out]; exact rd_append_bytes hown6, hb4⟩
          case measure => simp [intOf]; omega
    · have d : decide ((ii : Int) + 4 ≤ (n : Int)) = false := by rw [decide_eq_false_iff_not]; omega
      have hUL : U = L := by
        rw [← HL.out, ← HU.out]
        unfold decB
        rw [HK.out, if_neg (by decide)]
        congr 1
        have h1 := hii.out
        have h2 := HN.out
        show j = c.length / 4
        omega
      subst hUL
      have hcv := RdBytes.string (P := Tryd.prog) (RdRow.of_owns hown) 31 9 5 Tryd.underlying31 Tryd.underlying5 Tryd.underlying9
      have hbw : Below w.heap.size w wr := HB0.out.trans (hbr.mono (by have := HN0.out; omega))
      have hUs : (⟨U.toArray⟩ : ByteArray).size ≤ 16777216 := by rw [show (⟨U.toArray⟩ : ByteArray).size = U.length from by simp [ByteArray.size]]; omega
      have HUS := Lib.hid hUs; have HBW := Lib.hid hbw; have HBR := Lib.hid hbr; have HUL := Lib.hid hul
      have hzw : w.heap.size < wr.heap.size := by have := HN0.out; omega
      clear hUs hbw hbr hul hown
      go_wp2_with fail
      refine (rEncode_any k ⟨U.toArray⟩ HUS.out _).mono ?_
      rintro e w5 ⟨vb, rfl, rb, hb⟩
      rw [show (⟨U.toArray⟩ : ByteArray).data.toList = U from by simp, HCC.out]
      rw [show (⟨U.toArray⟩ : ByteArray).data.toList = U from by simp, HE.out] at rb
      have r0 : w5.cell? ⟨w.heap.size, 0, none⟩ = some (.int .i64 0) := (hb.cell (p := ⟨w.heap.size, 0, none⟩) (by simp; omega)).trans ((World.cell?_alloc_past _ _ _ hzw).trans ((HBR.out.cell (p := ⟨w.heap.size, 0, none⟩) (by have := HN0.out; simp only []; omega)).trans HC.out.1))
      have r1 : w5.cell? ⟨w.heap.size, 1, none⟩ = some (.string { data := #[] }) := (hb.cell (p := ⟨w.heap.size, 1, none⟩) (by simp; omega)).trans ((World.cell?_alloc_past _ _ _ hzw).trans ((HBR.out.cell (p := ⟨w.heap.size, 1, none⟩) (by have := HN0.out; simp only []; omega)).trans HC.out.2.1))
      have q0 : w5.frozen? ⟨w.heap.size, 0, none⟩ = false := (hb.frozen (p := ⟨w.heap.size, 0, none⟩) (by simp; omega)).trans ((World.frozen?_alloc_past _ _ _ hzw).trans ((HBR.out.frozen (p := ⟨w.heap.size, 0, none⟩) (by have := HN0.out; simp only []; omega)).trans HC.out.2.2.1))
      have q1 : w5.frozen? ⟨w.heap.size, 1, none⟩ = false := (hb.frozen (p := ⟨w.heap.size, 1, none⟩) (by simp; omega)).trans ((World.frozen?_alloc_past _ _ _ hzw).trans ((HBR.out.frozen (p := ⟨w.heap.size, 1, none⟩) (by have := HN0.out; simp only []; omega)).trans HC.out.2.2.2))
      have t0 : w5.cell? ⟨wr.heap.size, 0, none⟩ = some (.int .i64 k) := (hb.cell (p := ⟨wr.heap.size, 0, none⟩) (by simp)).trans (by simp [go_sem])
      have t1 : w5.cell? ⟨wr.heap.size, 1, none⟩ = some (.string ⟨U.toArray⟩) := (hb.cell (p := ⟨wr.heap.size, 1, none⟩) (by simp)).trans (by simp [go_sem])
      have hb5 : Below w.heap.size w w5 := (HBW.out.alloc (by omega) _).trans (hb.mono (by simp; omega))
      have HB5 := Lib.hid hb5; have hz5 := lt_of_cell r0; have RB := Lib.hid rb
      clear hb hb5 rb hzw
      go_wp2_with fail
      refine (Bytes_any _ _ _ _ _ E c RB.out (HRD.out.below HB5.out)).mono ?_
      rintro e w6 ⟨rfl, rfl⟩
      rw [HEE.out]
      go_wp2
      have hts := two_stored r0 r1 (.int .i64 0) (.string { data := #[] })
      refine ret_two Tryd.results14 ⟨_, rfl, loadVar_cells _ _ _ 0 [.int .i64 0, .string { data := #[] }] _ Tryd.underlying23 rfl (by kernel_rfl) (cells2 hts.1 hts.2)⟩ rfl rfl ⟨?_, ?_⟩
      · unfold decK decV decC; simp [HK.out, HOK.out]
      · exact (by (repeat (first | exact HB5.out | refine Below.setCell ?_ ?_ _ | refine Below.alloc ?_ ?_ _ | refine Below.drew ?_)) <;> first | omega | (simp; done) | (simp; omega))

set_option maxRecDepth 100000 in
set_option maxHeartbeats 4000000 in
theorem rDec_4C (k : Int) (S : Nat → Prop) (v : Value) (c : List UInt8) (w : World) (hrd : RdBytes S w v c) (hs : c.length ≤ 1000000) (hk : widthS k = 4) (L : List UInt8) (hL : decB k c = L) (h1 : validS k L = false) :
    Calls Tryd.prog 14 #[.int .i64 k, v] w (DecPost k c w) := by
  have hok : okD k c = false := by unfold okD; rw [hL]; simp [h1]
  have hLs : L.length ≤ 4000000 := by rw [← hL]; exact decB_len k c hs
  obtain ⟨E, hE⟩ : ∃ E, encR k L = E := ⟨_, rfl⟩
  obtain ⟨Cc, hCc⟩ : ∃ Cc, encC k L = Cc := ⟨_, rfl⟩
  have hCv : Cc = 8 := by rw [← hCc]; unfold encC; rw [h1]; rfl
  subst hCv
  have hdL : decB k c = L := hL
  have HOK := Lib.hid hok; have HE := Lib.hid hE; have HCC := Lib.hid hCc; have HK := Lib.hid hk; have HL := Lib.hid hdL
  clear hok hE hCc hk hL hdL
  obtain ⟨a, cp, rfl, hq1, hq2, hq3, hq4⟩ := hrd
  obtain ⟨n, hn⟩ : ∃ n, c.length = n := ⟨_, rfl⟩
  rw [hn] at hq1 hq3 hs ⊢
  have HN := Lib.hid hn; have HQ := Lib.hid hq4; have HQ3 := Lib.hid hq3
  clear hn hq4 hq3
  have hnm : (n : Int) ≤ 9223372036854775807 := by omega
  have hrd0 : RdBytes S w (.slice a n cp) c := ⟨a, cp, by rw [HN.out], by rw [HN.out]; exact hq1, hq2, by rw [HN.out]; exact HQ3.out, HQ.out⟩
  have HRD := Lib.hid hrd0; clear hrd0
  go_enter Tryd.func14, Tryd.ntmps14
  go_wp2_with (go_at_call 28; refine (width_any k _).mono ?_; rintro e w3 ⟨rfl, rfl⟩; rw [HK.out])
  obtain ⟨W0, hW0⟩ : ∃ W0, w.alloc (.cells #[.int .i64 0, .string { data := #[] }] 23) = W0 := ⟨_, rfl⟩
  rw [hW0]
  have hb0 : Below w.heap.size w W0 := by rw [← hW0]; exact (Below.refl _ _).alloc (Nat.le_refl _) _
  have hz0 : W0.heap.size = w.heap.size + 1 := by rw [← hW0]; simp
  have c0 : W0.cell? ⟨w.heap.size, 0, none⟩ = some (.int .i64 0) := by rw [← hW0]; simp [go_sem]
  have c1 : W0.cell? ⟨w.heap.size, 1, none⟩ = some (.string { data := #[] }) := by rw [← hW0]; simp [go_sem]
  have z0 : W0.frozen? ⟨w.heap.size, 0, none⟩ = false := by rw [← hW0]; simp [go_sem]
  have z1 : W0.frozen? ⟨w.heap.size, 1, none⟩ = false := by rw [← hW0]; simp [go_sem]
  clear hW0
  have HC := Lib.hid (And.intro c0 (And.intro c1 (And.intro z0 z1)))
  clear c0 c1 z0 z1
  obtain ⟨N0, hN0⟩ : ∃ N0, w.heap.size + 1 = N0 := ⟨_, rfl⟩
  rw [hN0] at hz0
  have HZ := Lib.hid hz0; have HN0 := Lib.hid hN0; have HB0 := Lib.hid hb0
  have hzle : N0 ≤ W0.heap.size := Nat.le_of_eq hz0.symm
  clear hz0 hN0 hb0
  go_loopw [7, 8] (fun o i wr => ∃ (j ii : Nat), i = .int .i64 ii ∧ Hid (ii = j * 4) ∧ ii ≤ n ∧ wr.ownsRow N0 5 1 o (unitsTo 4 c j).length (Lib.byteCells (unitsTo 4 c j)) ∧ Below N0 W0 wr)
    (fun _ i _ => n - (intOf i).toNat)
  case atStart => exact ⟨0, 0, rfl, Lib.hid (by omega), by omega, World.ownsRow_nil _ _ _ _, Below.refl _ _⟩
  case round =>
    obtain ⟨j, ii, rfl, hii, hin, hown, hbr⟩ := hrel
    have hul := unitsTo_len 4 c j
    have hsz : N0 ≤ wr.heap.size := Nat.le_trans hzle hbr.size
    obtain ⟨U, hU⟩ : ∃ U, unitsTo 4 c j = U := ⟨_, rfl⟩
    rw [hU] at hown hul
    have HU := Lib.hid hU; clear hU
    have hj4 : j ≤ 1000000 := by have := hii.out; omega
    by_cases hlt : ii + 4 ≤ n
    · have d : decide ((ii : Int) + 4 ≤ (n : Int)) = true := by rw [decide_eq_true_iff]; omega
      go_wp2
      go_loop [9, 10] (fun x q => ∃ (q' x' : Nat), q = .int .i64 q' ∧ x = .int .i64 x' ∧ q' ≤ 4 ∧ Hid (x' = numAt c ii q') ∧ x' < 4294967296)
        (fun _ q => 4 - (intOf q).toNat)
      case atStart => exact ⟨0, 0, rfl, rfl, by omega, Lib.hid rfl, by omega⟩
      case round =>
        obtain ⟨q, x, rfl, rfl, hq, hx, hxl⟩ := hrel
        by_cases hql : q < 4
        · have hcl : c.length = n := HN.out
          obtain ⟨y, hy⟩ : ∃ y : Nat, (c.getD (ii + q) 0).toNat = y := ⟨_, rfl⟩
          obtain ⟨bb, oo, rfl, -, hcell⟩ := HQ.out (ii + q) (.int .u8 y) (by rw [byteCells_get, ← hy, List.getD_eq_getElem?_getD, List.getElem?_eq_getElem (show ii + q < c.length by omega)]; rfl)
          have hlt0 := lt_of_cell hcell
          have hcr : wr.cell? ⟨bb, oo + (ii + q), none⟩ = some (.int .u8 y) := (hbr.cell (p := ⟨bb, oo + (ii + q), none⟩) (by have := HN0.out; simp only [] at hlt0 ⊢; omega)).trans ((HB0.out.cell (p := ⟨bb, oo + (ii + q), none⟩) hlt0).trans hcell)
          have hy2 : y < 256 := by rw [← hy]; exact (c.getD (ii + q) 0).toNat_lt
          have hstep : x * 256 + y = numAt c ii (q + 1) := by rw [numAt, ← hx.out, hy]
          have hbd : x * 256 + y < 4294967296 := by
            rw [hstep]
            exact Nat.lt_of_lt_of_le (numAt_lt c ii (q + 1)) (by have h := Nat.pow_le_pow_right (n := 256) (by omega) (show q + 1 ≤ 4 by omega); exact h)
          have HS := Lib.hid hstep
          clear hstep hy hcell hlt0 hcl
          have e1 : (0 : Int) ≤ (ii : Int) + (q : Int) := by omega
          have e2 : (ii : Int) + (q : Int) < (n : Int) := by omega
          go_wp2
          go_round
          case rel => exact ⟨q + 1, x * 256 + y, by go_num, by go_num, by omega, Lib.hid HS.out, hbd⟩
          case measure => simp [intOf]; omega
        · have hqW : q = 4 := by omega
          subst hqW
          have HX := Lib.hid hx.out; clear hx
          go_wp2_with (first | (go_at_call 35; refine (Octets_any x (by omega) _).mono ?_; rintro e w4 ⟨v, rfl, hrd, hb5⟩; have hl5 := octs_len4 x; have hown5 := owns_below hown hb5; clear hown; have hbr5 := hbr.trans (hb5.mono hsz); clear hbr hb5; have hs5 := hbr5.size) | (at_builtin; refine wpList_append_rd rfl _ _ 31 rfl byteElem hbr5 (by omega) hown5 rfl hrd rfl ?_ ?_ ?_ ?_; (intro u hu; simp only [Lib.byteCells, List.mem_map] at hu; obtain ⟨y, _, rfl⟩ := hu; rfl); (unfold maxLen; omega); omega; rintro v' w5 hown6 hb4 - - - -; clear hown5 hbr5 hrd))
          go_roundw
          case rel => exact ⟨j + 1, ii + 4, by go_num, Lib.hid (by have := hii.out; omega), by omega, by rw [unitsTo_succ, HU.out, ← hii.out, ← HX.out]; exact rd_append_bytes hown6, hb4⟩
          case measure => simp [intOf]; omega
    · have d : decide ((ii : Int) + 4 ≤ (n : Int)) = false := by rw [decide_eq_false_iff_not]; omega
      have hUL : U = L := by
        rw [← HL.out, ← HU.out]
        unfold decB
        rw [HK.out, if_neg (by decide)]
        congr 1
        have h1 := hii.out
        have h2 := HN.out
        show j = c.length / 4
        omega
      subst hUL
      have hcv := RdBytes.string (P := Tryd.prog) (RdRow.of_owns hown) 31 9 5 Tryd.underlying31 Tryd.underlying5 Tryd.underlying9
      have hbw : Below w.heap.size w wr := HB0.out.trans (hbr.mono (by have := HN0.out; omega))
      have hUs : (⟨U.toArray⟩ : ByteArray).size ≤ 16777216 := by rw [show (⟨U.toArray⟩ : ByteArray).size = U.length from by simp [ByteArray.size]]; omega
      have HUS := Lib.hid hUs; have HBW := Lib.hid hbw; have HBR := Lib.hid hbr; have HUL := Lib.hid hul
      have hzw : w.heap.size < wr.heap.size := by have := HN0.out; omega
      clear hUs hbw hbr hul hown
      go_wp2_with fail
      refine (rEncode_any k ⟨U.toArray⟩ HUS.out _).mono ?_
      rintro e w5 ⟨vb, rfl, rb, hb⟩
      rw [show (⟨U.toArray⟩ : ByteArray).data.toList = U from by simp, HCC.out]
      rw [show (⟨U.toArray⟩ : ByteArray).data.toList = U from by simp, HE.out] at rb
      have r0 : w5.cell? ⟨w.heap.size, 0, none⟩ = some (.int .i64 0) := (hb.cell (p := ⟨w.heap.size, 0, none⟩) (by simp; omega)).trans ((World.cell?_alloc_past _ _ _ hzw).trans ((HBR.out.cell (p := ⟨w.heap.size, 0, none⟩) (by have := HN0.out; simp only []; omega)).trans HC.out.1))
      have r1 : w5.cell? ⟨w.heap.size, 1, none⟩ = some (.string { data := #[] }) := (hb.cell (p := ⟨w.heap.size, 1, none⟩) (by simp; omega)).trans ((World.cell?_alloc_past _ _ _ hzw).trans ((HBR.out.cell (p := ⟨w.heap.size, 1, none⟩) (by have := HN0.out; simp only []; omega)).trans HC.out.2.1))
      have q0 : w5.frozen? ⟨w.heap.size, 0, none⟩ = false := (hb.frozen (p := ⟨w.heap.size, 0, none⟩) (by simp; omega)).trans ((World.frozen?_alloc_past _ _ _ hzw).trans ((HBR.out.frozen (p := ⟨w.heap.size, 0, none⟩) (by have := HN0.out; simp only []; omega)).trans HC.out.2.2.1))
      have q1 : w5.frozen? ⟨w.heap.size, 1, none⟩ = false := (hb.frozen (p := ⟨w.heap.size, 1, none⟩) (by simp; omega)).trans ((World.frozen?_alloc_past _ _ _ hzw).trans ((HBR.out.frozen (p := ⟨w.heap.size, 1, none⟩) (by have := HN0.out; simp only []; omega)).trans HC.out.2.2.2))
      have t0 : w5.cell? ⟨wr.heap.size, 0, none⟩ = some (.int .i64 k) := (hb.cell (p := ⟨wr.heap.size, 0, none⟩) (by simp)).trans (by simp [go_sem])
      have t1 : w5.cell? ⟨wr.heap.size, 1, none⟩ = some (.string ⟨U.toArray⟩) := (hb.cell (p := ⟨wr.heap.size, 1, none⟩) (by simp)).trans (by simp [go_sem])
      have hb5 : Below w.heap.size w w5 := (HBW.out.alloc (by omega) _).trans (hb.mono (by simp; omega))
      have HB5 := Lib.hid hb5; have hz5 := lt_of_cell r0; have RB := Lib.hid rb
      clear hb hb5 rb hzw
      go_wp2
      have hts := two_stored r0 r1 (.int .i64 0) (.string { data := #[] })
      refine ret_two Tryd.results14 ⟨_, rfl, loadVar_cells _ _ _ 0 [.int .i64 0, .string { data := #[] }] _ Tryd.underlying23 rfl (by kernel_rfl) (cells2 hts.1 hts.2)⟩ rfl rfl ⟨?_, ?_⟩
      · unfold decK decV decC; simp [HK.out, HOK.out]
      · exact (by (repeat (first | exact HB5.out | refine Below.setCell ?_ ?_ _ | refine Below.alloc ?_ ?_ _ | refine Below.drew ?_)) <;> first | omega | (simp; done) | (simp; omega))

theorem rDecode_any (k : Int) (S : Nat → Prop) (v : Value) (c : List UInt8) (w : World) (hrd : RdBytes S w v c) (hs : c.length ≤ 1000000) :
    Calls Tryd.prog 14 #[.int .i64 k, v] w (DecPost k c w) := by
  by_cases hk : widthS k < 0
  · exact rDec_neg k S v c w hrd hk
  rcases Bool.eq_false_or_eq_true (validS k (decB k c)) with h1 | h1
  · by_cases h2 : encS k (decB k c) = c
    · rcases width_cases k hk with h | h | h | h | h | h | h
      · exact rDec_0A k S v c w hrd hs (by rw [h]; rfl) _ rfl h1 h2
      · exact rDec_1A k S v c w hrd hs (by rw [h]; rfl) _ rfl h1 h2
      · exact rDec_1A k S v c w hrd hs (by rw [h]; rfl) _ rfl h1 h2
      · exact rDec_1A k S v c w hrd hs (by rw [h]; rfl) _ rfl h1 h2
      · exact rDec_1A k S v c w hrd hs (by rw [h]; rfl) _ rfl h1 h2
      · exact rDec_4A k S v c w hrd hs (by rw [h]; rfl) _ rfl h1 h2
      · exact rDec_2A k S v c w hrd hs (by rw [h]; rfl) _ rfl h1 h2
    · rcases width_cases k hk with h | h | h | h | h | h | h
      · exact rDec_0B k S v c w hrd hs (by rw [h]; rfl) _ rfl h1 h2
      · exact rDec_1B k S v c w hrd hs (by rw [h]; rfl) _ rfl h1 h2
      · exact rDec_1B k S v c w hrd hs (by rw [h]; rfl) _ rfl h1 h2
      · exact rDec_1B k S v c w hrd hs (by rw [h]; rfl) _ rfl h1 h2
      · exact rDec_1B k S v c w hrd hs (by rw [h]; rfl) _ rfl h1 h2
      · exact rDec_4B k S v c w hrd hs (by rw [h]; rfl) _ rfl h1 h2
      · exact rDec_2B k S v c w hrd hs (by rw [h]; rfl) _ rfl h1 h2
  · rcases width_cases k hk with h | h | h | h | h | h | h
    · exact rDec_0C k S v c w hrd hs (by rw [h]; rfl) _ rfl h1
    · exact rDec_1C k S v c w hrd hs (by rw [h]; rfl) _ rfl h1
    · exact rDec_1C k S v c w hrd hs (by rw [h]; rfl) _ rfl h1
    · exact rDec_1C k S v c w hrd hs (by rw [h]; rfl) _ rfl h1
    · exact rDec_1C k S v c w hrd hs (by rw [h]; rfl) _ rfl h1
    · exact rDec_4C k S v c w hrd hs (by rw [h]; rfl) _ rfl h1
    · exact rDec_2C k S v c w hrd hs (by rw [h]; rfl) _ rfl h1

end Go.Proofs.YtafconpneeggiaaDoor
