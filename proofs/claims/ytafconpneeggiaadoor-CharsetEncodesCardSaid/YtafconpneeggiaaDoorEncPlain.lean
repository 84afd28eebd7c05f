/- What is encoded is decoded. Plain law. No condition. -/
import Derived.Test.YtafconpneeggiaaDoorDecPlain
namespace Go.Proofs.YtafconpneeggiaaDoor
open Go.Lib (validD decodeL)

theorem enc_dec {k : Int} {l : List UInt8} (hv : validS k l = true) : decK k (encR k l) = k ∧ decV k (encR k l) = l ∧ decC k (encR k l) = 0 := by
  have hneg : ¬ widthS k < 0 := by
    intro h; unfold validS at hv; simp [h] at hv
  obtain ⟨W, hW⟩ : ∃ W : Nat, widthS k = (W : Int) := ⟨(widthS k).toNat, by omega⟩
  have hall : ∀ x ∈ rns l, hasS k x = true := by
    unfold validS at hv
    simp only [Bool.and_eq_true, List.all_eq_true] at hv
    exact hv.2
  have hd : validD l = true := by
    unfold validS at hv
    simp only [Bool.and_eq_true] at hv
    exact hv.1.1
  have key : okD k (encR k l) = true ∧ decB k (encR k l) = l := by
    unfold encR
    rw [hv, if_pos rfl]
    by_cases h0 : W = 0
    · have hk : widthS k = 0 := by rw [hW, h0]; rfl
      have he : encS k l = l := by unfold encS; rw [if_pos hk]
      have hb : decB k l = l := by unfold decB; rw [if_pos hk]
      rw [he]
      exact ⟨by unfold okD; rw [hb, hv, he]; simp, hb⟩
    · have he : encS k l = (rns l).flatMap (bigE W) := by unfold encS; rw [if_neg (by omega), hW, Int.toNat_natCast]
      have hlen : (encS k l).length = (rns l).length * W := by rw [he, flat_len]
      have hq : (encS k l).length / W = (rns l).length := by rw [hlen]; exact Nat.mul_div_cancel _ (by omega)
      have hn : nums W (encS k l) ((encS k l).length / W) = rns l := by
        refine flat_inj W (by omega) _ _ (fun x hx => by
          obtain ⟨q, _, rfl⟩ := List.mem_map.1 hx
          exact numAt_lt _ (q * W) W) (fun y hy => has_small hW (by omega) (hall y hy)) ?_
        rw [nums_flat W _ _ (by rw [hq, hlen]; exact Nat.le_refl _), hq, ← hlen, List.take_of_length_le (Nat.le_refl _), he]
      obtain ⟨o1, o2, -⟩ := okD_yes (c := encS k l) hW (by omega) (by rw [hlen]; exact Nat.mul_mod_left _ _) (by rw [hn]; exact hall)
      exact ⟨o1, by rw [o2, hn]; exact rns_flat l hd⟩
  unfold decK decV decC
  rw [if_neg hneg, if_neg hneg, if_neg hneg, key.1, key.2]
  exact ⟨rfl, rfl, rfl⟩
theorem len_flat : ∀ xs : List Nat, xs.length ≤ (xs.flatMap enc).length
  | [] => by simp
  | x :: xs => by
    have := len_flat xs
    have := (enc_len x).1
    rw [List.flatMap_cons, List.length_append, List.length_cons]; omega
theorem encR_len (k : Int) (l : List UInt8) (h : l.length ≤ 1000) : (encR k l).length ≤ 1000000 := by
  unfold encR
  split
  · rename_i hv
    have hd : validD l = true := by
      unfold validS at hv
      simp only [Bool.and_eq_true] at hv
      exact hv.1.1
    unfold encS
    split
    · omega
    · have hw : (widthS k).toNat ≤ 4 := by unfold widthS; (repeat' split) <;> decide
      have hl := len_flat (rns l)
      rw [rns_flat l hd] at hl
      rw [flat_len]
      have : (rns l).length * (widthS k).toNat ≤ 1000 * 4 := Nat.mul_le_mul (by omega) hw
      omega
  · simp
end Go.Proofs.YtafconpneeggiaaDoor
