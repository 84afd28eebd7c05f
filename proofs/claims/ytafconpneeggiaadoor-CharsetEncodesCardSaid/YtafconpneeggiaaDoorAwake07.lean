/- The walk of awake: it answers true. No condition but the tables of unicode/utf8. -/
import Derived.Test.YtafconpneeggiaaDoorEncode
import Derived.Test.YtafconpneeggiaaDoorBest
import Derived.Test.YtafconpneeggiaaDoorFold
namespace Go.Proofs.YtafconpneeggiaaDoor
open Go.RowKit
open Go.Lib (validD decodeL)

theorem awA : validD [65, 195, 169] = true ∧ rns [65, 195, 169] = [65, 233] := valid_flat [65, 233] (by decide)
theorem awB : validD [97, 64, 98] = true ∧ rns [97, 64, 98] = [97, 64, 98] := valid_flat [97, 64, 98] (by decide)
theorem awEnc (k : Int) (l : List UInt8) (b : Bool) (hb : ([65, 233].all (hasS k)) = b) (hk : ¬ widthS k < 0) (he : b = true → encS k [65, 195, 169] = l) (hn : b = false → l = []) : encR k [65, 195, 169] = l ∧ encC k [65, 195, 169] = if b then 0 else 8 := by
  have hv : validS k [65, 195, 169] = b := by unfold validS; rw [awA.1, awA.2, hb]; simp [hk]; try (intro _; omega)
  unfold encR encC
  rw [hv]
  cases b with
  | true => exact ⟨he rfl, rfl⟩
  | false => exact ⟨(hn rfl).symm, rfl⟩
theorem awE1 : encR 12 [65, 195, 169] = [65, 195, 169] ∧ encC 12 [65, 195, 169] = 0 := awEnc 12 _ true (by decide) (by decide) (fun _ => by unfold encS; rw [if_pos (by decide)]) (fun h => by cases h)
theorem awE2 : encR 20 [65, 195, 169] = [65, 233] ∧ encC 20 [65, 195, 169] = 0 := awEnc 20 _ true (by decide) (by decide) (fun _ => by unfold encS; rw [if_neg (by decide), awA.2]; decide) (fun h => by cases h)
theorem awE3 : encR 30 [65, 195, 169] = [0, 65, 0, 233] ∧ encC 30 [65, 195, 169] = 0 := awEnc 30 _ true (by decide) (by decide) (fun _ => by unfold encS; rw [if_neg (by decide), awA.2]; decide) (fun h => by cases h)
theorem awE4 : encR 19 [65, 195, 169] = [] ∧ encC 19 [65, 195, 169] = 8 := awEnc 19 [] false (by decide) (by decide) (fun h => by cases h) (fun _ => rfl)
theorem awV (k : Int) (b : Bool) (hb : ([97, 64, 98].all (hasS k)) = b) (hk : ¬ widthS k < 0) : validS k [97, 64, 98] = b := by
  unfold validS; rw [awB.1, awB.2, hb]; simp [hk]; try (intro _; omega)
theorem awBest : bestK [97, 64, 98] = 12 ∧ bestC [97, 64, 98] = 0 := by
  have h1 := awV 19 false (by decide) (by decide)
  have h2 := awV 12 true (by decide) (by decide)
  unfold bestK bestC; simp [h1, h2]
theorem awFold : foldI [] [32, 32, 65, 32, 32, 98, 32] = [97, 32, 98] := by rw [foldI_eq]; decide

set_option maxRecDepth 100000 in
set_option maxHeartbeats 4000000 in
theorem awake_any (w : World) (hT : Lib.Utf8Tabs 0 1 w) :
    Calls Tryd.prog 8 #[] w fun e w' => e = .returned (.bool true) ∧ Below w.heap.size w w' := by
  have HT := Lib.hid hT; clear hT
  have HB0 : Hid (Below w.heap.size w w) := Lib.hid (Below.refl _ _)
  go_enter Tryd.func8, Tryd.ntmps8
  go_wp2_with fail
  refine (encode_any 12 { data := #[65, 195, 169] } (by decide) _ (Utf8Tabs_below HT.out (by (repeat (first | exact HB0.out | refine Below.setCell ?_ ?_ _ | refine Below.alloc ?_ ?_ _ | refine Below.drew ?_)) <;> first | omega | (simp; done) | (simp; omega)))).mono ?_
  rintro e w1 ⟨v1, rfl, r1, hb⟩
  rw [show encR 12 (ByteArray.mk #[65, 195, 169]).data.toList = _ from awE1.1] at r1
  rw [show encC 12 (ByteArray.mk #[65, 195, 169]).data.toList = _ from awE1.2]
  have hs1 : Below w.heap.size w w1 := Below.trans (by (repeat (first | exact Below.refl _ _ | refine Below.setCell ?_ ?_ _ | refine Below.alloc ?_ ?_ _ | refine Below.drew ?_)) <;> first | omega | (simp; done) | (simp; omega)) (hb.mono (by first | omega | (simp; done) | (simp; omega) | (simp [go_sem]; done) | (simp [go_sem]; omega))); clear hb
  have HB1 : Hid (Below w.heap.size w w1) := Lib.hid (HB0.out.trans (hs1.mono HB0.out.size)); clear hs1
  go_wp2_with fail
  refine (encode_any 20 { data := #[65, 195, 169] } (by decide) _ (Utf8Tabs_below HT.out (by (repeat (first | exact HB1.out | refine Below.setCell ?_ ?_ _ | refine Below.alloc ?_ ?_ _ | refine Below.drew ?_)) <;> first | omega | (simp; done) | (simp; omega)))).mono ?_
  rintro e w2 ⟨v2, rfl, r2, hb⟩
  rw [show encR 20 (ByteArray.mk #[65, 195, 169]).data.toList = _ from awE2.1] at r2
  rw [show encC 20 (ByteArray.mk #[65, 195, 169]).data.toList = _ from awE2.2]
  have hs2 : Below w1.heap.size w1 w2 := Below.trans (by (repeat (first | exact Below.refl _ _ | refine Below.setCell ?_ ?_ _ | refine Below.alloc ?_ ?_ _ | refine Below.drew ?_)) <;> first | omega | (simp; done) | (simp; omega)) (hb.mono (by first | omega | (simp; done) | (simp; omega) | (simp [go_sem]; done) | (simp [go_sem]; omega))); clear hb
  have r1' := r1.below hs2; clear r1; have r1 := r1'; clear r1'
  have HB2 : Hid (Below w.heap.size w w2) := Lib.hid (HB1.out.trans (hs2.mono HB1.out.size)); clear hs2
  go_wp2_with fail
  refine (encode_any 30 { data := #[65, 195, 169] } (by decide) _ (Utf8Tabs_below HT.out (by (repeat (first | exact HB2.out | refine Below.setCell ?_ ?_ _ | refine Below.alloc ?_ ?_ _ | refine Below.drew ?_)) <;> first | omega | (simp; done) | (simp; omega)))).mono ?_
  rintro e w3 ⟨v3, rfl, r3, hb⟩
  rw [show encR 30 (ByteArray.mk #[65, 195, 169]).data.toList = _ from awE3.1] at r3
  rw [show encC 30 (ByteArray.mk #[65, 195, 169]).data.toList = _ from awE3.2]
  have hs3 : Below w2.heap.size w2 w3 := Below.trans (by (repeat (first | exact Below.refl _ _ | refine Below.setCell ?_ ?_ _ | refine Below.alloc ?_ ?_ _ | refine Below.drew ?_)) <;> first | omega | (simp; done) | (simp; omega)) (hb.mono (by first | omega | (simp; done) | (simp; omega) | (simp [go_sem]; done) | (simp [go_sem]; omega))); clear hb
  have r1' := r1.below hs3; clear r1; have r1 := r1'; clear r1'
  have r2' := r2.below hs3; clear r2; have r2 := r2'; clear r2'
  have HB3 : Hid (Below w.heap.size w w3) := Lib.hid (HB2.out.trans (hs3.mono HB2.out.size)); clear hs3
  go_wp2_with fail
  refine (encode_any 19 { data := #[65, 195, 169] } (by decide) _ (Utf8Tabs_below HT.out (by (repeat (first | exact HB3.out | refine Below.setCell ?_ ?_ _ | refine Below.alloc ?_ ?_ _ | refine Below.drew ?_)) <;> first | omega | (simp; done) | (simp; omega)))).mono ?_
  rintro e w4 ⟨v4, rfl, r4, hb⟩
  rw [show encR 19 (ByteArray.mk #[65, 195, 169]).data.toList = _ from awE4.1] at r4
  rw [show encC 19 (ByteArray.mk #[65, 195, 169]).data.toList = _ from awE4.2]
  have hs4 : Below w3.heap.size w3 w4 := Below.trans (by (repeat (first | exact Below.refl _ _ | refine Below.setCell ?_ ?_ _ | refine Below.alloc ?_ ?_ _ | refine Below.drew ?_)) <;> first | omega | (simp; done) | (simp; omega)) (hb.mono (by first | omega | (simp; done) | (simp; omega) | (simp [go_sem]; done) | (simp [go_sem]; omega))); clear hb
  have r1' := r1.below hs4; clear r1; have r1 := r1'; clear r1'
  have r2' := r2.below hs4; clear r2; have r2 := r2'; clear r2'
  have r3' := r3.below hs4; clear r3; have r3 := r3'; clear r3'
  have HB4 : Hid (Below w.heap.size w w4) := Lib.hid (HB3.out.trans (hs4.mono HB3.out.size)); clear hs4
  go_wp2_with fail
  refine (best_any { data := #[97, 64, 98] } (by decide) _ (Utf8Tabs_below HT.out (by (repeat (first | exact HB4.out | refine Below.setCell ?_ ?_ _ | refine Below.alloc ?_ ?_ _ | refine Below.drew ?_)) <;> first | omega | (simp; done) | (simp; omega)))).mono ?_
  rintro e w5 ⟨rfl, hb⟩
  rw [show bestK (ByteArray.mk #[97, 64, 98]).data.toList = _ from awBest.1, show bestC (ByteArray.mk #[97, 64, 98]).data.toList = _ from awBest.2]
  have hs5 : Below w4.heap.size w4 w5 := Below.trans (by (repeat (first | exact Below.refl _ _ | refine Below.setCell ?_ ?_ _ | refine Below.alloc ?_ ?_ _ | refine Below.drew ?_)) <;> first | omega | (simp; done) | (simp; omega)) (hb.mono (by first | omega | (simp; done) | (simp; omega) | (simp [go_sem]; done) | (simp [go_sem]; omega))); clear hb
  have r1' := r1.below hs5; clear r1; have r1 := r1'; clear r1'
  have r2' := r2.below hs5; clear r2; have r2 := r2'; clear r2'
  have r3' := r3.below hs5; clear r3; have r3 := r3'; clear r3'
  have r4' := r4.below hs5; clear r4; have r4 := r4'; clear r4'
  have HB5 : Hid (Below w.heap.size w w5) := Lib.hid (HB4.out.trans (hs5.mono HB4.out.size)); clear hs5
  go_wp2_with fail
  refine (Bytes_any _ _ _ _ _ [65, 195, 169] [65, 195, 169] (r1.below (by (repeat (first | exact Below.refl _ _ | refine Below.setCell ?_ ?_ _ | refine Below.alloc ?_ ?_ _ | refine Below.drew ?_)) <;> first | omega | (simp; done) | (simp; omega))) (rd_at _ 5 3 _ _ _ (by first | omega | (simp; done) | (simp; omega) | (simp [go_sem]; done) | (simp [go_sem]; omega)) rfl (by decide) rfl)).mono ?_
  rintro e w6 ⟨rfl, rfl⟩
  go_wp2_with fail
  refine (Bytes_any _ _ _ _ _ [65, 233] [65, 233] (r2.below (by (repeat (first | exact Below.refl _ _ | refine Below.setCell ?_ ?_ _ | refine Below.alloc ?_ ?_ _ | refine Below.drew ?_)) <;> first | omega | (simp; done) | (simp; omega))) (rd_at _ 5 2 _ _ _ (by first | omega | (simp; done) | (simp; omega) | (simp [go_sem]; done) | (simp [go_sem]; omega)) rfl (by decide) rfl)).mono ?_
  rintro e w6 ⟨rfl, rfl⟩
  go_wp2_with fail
  refine (Bytes_any _ _ _ _ _ [0, 65, 0, 233] [0, 65, 0, 233] (r3.below (by (repeat (first | exact Below.refl _ _ | refine Below.setCell ?_ ?_ _ | refine Below.alloc ?_ ?_ _ | refine Below.drew ?_)) <;> first | omega | (simp; done) | (simp; omega))) (rd_at _ 5 4 _ _ _ (by first | omega | (simp; done) | (simp; omega) | (simp [go_sem]; done) | (simp [go_sem]; omega)) rfl (by decide) rfl)).mono ?_
  rintro e w6 ⟨rfl, rfl⟩
  go_wp2_with fail
  refine (fold_any { data := #[32, 32, 65, 32, 32, 98, 32] } (by decide) _).mono ?_
  rintro e w6 ⟨rfl, hb⟩
  rw [show foldI [] (ByteArray.mk #[32, 32, 65, 32, 32, 98, 32]).data.toList = _ from awFold]
  have hz5 := HB5.out.size
  have HB6 : Hid (Below w.heap.size w w6) := Lib.hid (Below.trans (by (repeat (first | exact HB5.out | refine Below.setCell ?_ ?_ _ | refine Below.alloc ?_ ?_ _ | refine Below.drew ?_)) <;> first | omega | (simp; done) | (simp; omega)) (hb.mono (by have := HB5.out.size; first | omega | (simp; done) | (simp; omega) | (simp [go_sem]; done) | (simp [go_sem]; omega)))); clear hb
  go_wp2
  go_ret
  exact ⟨rfl, HB6.out⟩

end Go.Proofs.YtafconpneeggiaaDoor
