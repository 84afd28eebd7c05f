/- The walks of the reference's charset functions: what each returns, as plain functions. Sizes of strings are those that the model can hold. -/
import Derived.Test.YtafconpneeggiaaDoorRows
import Derived.Test.YtafconpneeggiaaDoorUtf
import Derived.Test.YtafconpneeggiaaDoorBase
import Derived.Deep.Light
namespace Go.Proofs.YtafconpneeggiaaDoor
open Go.RowKit

set_option maxHeartbeats 400000 in
theorem Bytes_any (S S' : Nat → Prop) (w : World) (va vb : Value) (la lb : List UInt8) (ha : RdBytes S w va la) (hb : RdBytes S' w vb lb) :
    Calls Tryd.prog 16 #[va, vb] w fun e w' => e = .returned (.bool (la == lb)) ∧ w = w' := by
  have h1 := ha.string 31 9 5 Tryd.underlying31 Tryd.underlying5 Tryd.underlying9
  have h2 := hb.string 31 9 5 Tryd.underlying31 Tryd.underlying5 Tryd.underlying9
  go_enter Tryd.func16, Tryd.ntmps16
  go_wp2
  go_ret
  exact ⟨rfl, rfl⟩

/-- The octets of a character of a kind; 0: its UTF-8; -1: no such kind. -/
def widthS (k : Int) : Int := if k = 12 then 0 else if k = 28 then 4 else if k = 30 then 2 else if k = 19 ∨ k = 20 ∨ k = 22 ∨ k = 26 then 1 else -1
set_option maxHeartbeats 400000 in
theorem width_any (k : Int) (w : World) :
    Calls Tryd.prog 28 #[.int .i64 k] w fun e w' => e = .returned (.int .i64 (widthS k)) ∧ w = w' := by
  go_enter Tryd.func28, Tryd.ntmps28
  go_wp2
  all_goals
    go_ret
    refine ⟨?_, rfl⟩
    have fin : ∀ a b : Int, a = b → Ending.returned (.int .i64 a) = Ending.returned (.int .i64 b) := fun a b h => by rw [h]
    simp only [beq_iff_eq, beq_eq_false_iff_ne, ne_eq] at *
    refine fin _ _ ?_
    unfold widthS
    simp [*]

set_option maxRecDepth 100000 in
set_option maxHeartbeats 1000000 in
theorem Octets_any (x : Nat) (hx : x < 1099511627776) (w : World) :
    Calls Tryd.prog 35 #[.int .i64 x] w fun e w' => ∃ v, e = .returned v ∧ RdBytes (fun b => w.heap.size ≤ b) w' v (octs x) ∧ Below w.heap.size w w' := by
  have cases : x < 128 ∨ (128 ≤ x ∧ x < 2048) ∨ (2048 ≤ x ∧ x < 55296) ∨ (55296 ≤ x ∧ x < 57344) ∨ (57344 ≤ x ∧ x < 65536) ∨ (65536 ≤ x ∧ x ≤ 1114111) ∨ 1114111 < x := by omega
  obtain ⟨O, hO⟩ : ∃ O, octs x = O := ⟨_, rfl⟩
  rw [hO]
  have HO := Lib.hid hO; clear hO
  have d1 : decide ((x : Int) < 0) = false := by simp
  rcases cases with h | ⟨h, h'⟩ | ⟨h, h'⟩ | ⟨h, h'⟩ | ⟨h, h'⟩ | ⟨h, h'⟩ | h
  · have d2 : decide ((1114111 : Int) < x) = false := by simp; omega
    have d3 : decide ((55296 : Int) ≤ x) = false := by simp; omega
    have d5 : decide ((x : Int) < 128) = true := by simp; omega
    have d6 : decide ((x : Int) < 2048) = true := by simp; omega
    have d7 : decide ((x : Int) < 65536) = true := by simp; omega
    go_enter Tryd.func35, Tryd.ntmps35
    go_wp2
    go_ret
    go_light
    have e : O = [UInt8.ofNat x] := by rw [← HO.out]; unfold octs enc encN; rw [if_pos (by rw [scal_iff]; omega), if_pos (by omega)]; rfl
    exact ⟨_, rfl, by rw [e]; exact rd_news w 5 _ _ _ rfl (by simp [maxLen]) (by simp only [Lib.byteCells, List.map_cons, List.map_nil, toNat_ofNat_lt (x) (by omega)] <;> simp), (Below.refl _ _).alloc (Nat.le_refl _) _⟩
  · have d2 : decide ((1114111 : Int) < x) = false := by simp; omega
    have d3 : decide ((55296 : Int) ≤ x) = false := by simp; omega
    have d5 : decide ((x : Int) < 128) = false := by simp; omega
    have d6 : decide ((x : Int) < 2048) = true := by simp; omega
    have d7 : decide ((x : Int) < 65536) = true := by simp; omega
    go_enter Tryd.func35, Tryd.ntmps35
    go_wp2
    go_ret
    go_light
    have e : O = [UInt8.ofNat (192 + x / 64), UInt8.ofNat (128 + x % 64)] := by rw [← HO.out]; unfold octs enc encN; rw [if_pos (by rw [scal_iff]; omega), if_neg (by omega), if_pos (by omega)]; rfl
    exact ⟨_, rfl, by rw [e]; exact rd_news w 5 _ _ _ rfl (by simp [maxLen]) (by simp only [Lib.byteCells, List.map_cons, List.map_nil, toNat_ofNat_lt ((192 + x / 64)) (by omega), toNat_ofNat_lt ((128 + x % 64)) (by omega)] <;> simp), (Below.refl _ _).alloc (Nat.le_refl _) _⟩
  · have d2 : decide ((1114111 : Int) < x) = false := by simp; omega
    have d3 : decide ((55296 : Int) ≤ x) = false := by simp; omega
    have d5 : decide ((x : Int) < 128) = false := by simp; omega
    have d6 : decide ((x : Int) < 2048) = false := by simp; omega
    have d7 : decide ((x : Int) < 65536) = true := by simp; omega
    go_enter Tryd.func35, Tryd.ntmps35
    go_wp2
    go_ret
    go_light
    have e : O = [UInt8.ofNat (224 + x / 4096), UInt8.ofNat (128 + x / 64 % 64), UInt8.ofNat (128 + x % 64)] := by rw [← HO.out]; unfold octs enc encN; rw [if_pos (by rw [scal_iff]; omega), if_neg (by omega), if_neg (by omega), if_pos (by omega)]; rfl
    exact ⟨_, rfl, by rw [e]; exact rd_news w 5 _ _ _ rfl (by simp [maxLen]) (by simp only [Lib.byteCells, List.map_cons, List.map_nil, toNat_ofNat_lt ((224 + x / 4096)) (by omega), toNat_ofNat_lt ((128 + x / 64 % 64)) (by omega), toNat_ofNat_lt ((128 + x % 64)) (by omega)] <;> simp), (Below.refl _ _).alloc (Nat.le_refl _) _⟩
  · have d2 : decide ((1114111 : Int) < x) = false := by simp; omega
    have d3 : decide ((55296 : Int) ≤ x) = true := by simp; omega
    have d4 : decide ((x : Int) < 57344) = true := by simp; omega
    go_enter Tryd.func35, Tryd.ntmps35
    go_wp2
    go_ret
    go_light
    have e : O = [] := by rw [← HO.out]; unfold octs; rw [if_neg (by rw [scal_iff]; omega)]
    exact ⟨_, rfl, by rw [e]; exact rd_nil _ _, Below.refl _ _⟩
  · have d2 : decide ((1114111 : Int) < x) = false := by simp; omega
    have d3 : decide ((55296 : Int) ≤ x) = true := by simp; omega
    have d4 : decide ((x : Int) < 57344) = false := by simp; omega
    have d5 : decide ((x : Int) < 128) = false := by simp; omega
    have d6 : decide ((x : Int) < 2048) = false := by simp; omega
    have d7 : decide ((x : Int) < 65536) = true := by simp; omega
    go_enter Tryd.func35, Tryd.ntmps35
    go_wp2
    go_ret
    go_light
    have e : O = [UInt8.ofNat (224 + x / 4096), UInt8.ofNat (128 + x / 64 % 64), UInt8.ofNat (128 + x % 64)] := by rw [← HO.out]; unfold octs enc encN; rw [if_pos (by rw [scal_iff]; omega), if_neg (by omega), if_neg (by omega), if_pos (by omega)]; rfl
    exact ⟨_, rfl, by rw [e]; exact rd_news w 5 _ _ _ rfl (by simp [maxLen]) (by simp only [Lib.byteCells, List.map_cons, List.map_nil, toNat_ofNat_lt ((224 + x / 4096)) (by omega), toNat_ofNat_lt ((128 + x / 64 % 64)) (by omega), toNat_ofNat_lt ((128 + x % 64)) (by omega)] <;> simp), (Below.refl _ _).alloc (Nat.le_refl _) _⟩
  · have d2 : decide ((1114111 : Int) < x) = false := by simp; omega
    have d3 : decide ((55296 : Int) ≤ x) = true := by simp; omega
    have d4 : decide ((x : Int) < 57344) = false := by simp; omega
    have d5 : decide ((x : Int) < 128) = false := by simp; omega
    have d6 : decide ((x : Int) < 2048) = false := by simp; omega
    have d7 : decide ((x : Int) < 65536) = false := by simp; omega
    go_enter Tryd.func35, Tryd.ntmps35
    go_wp2
    go_ret
    go_light
    have e : O = [UInt8.ofNat (240 + x / 262144), UInt8.ofNat (128 + x / 4096 % 64), UInt8.ofNat (128 + x / 64 % 64), UInt8.ofNat (128 + x % 64)] := by rw [← HO.out]; unfold octs enc encN; rw [if_pos (by rw [scal_iff]; omega), if_neg (by omega), if_neg (by omega), if_neg (by omega)]; rfl
    exact ⟨_, rfl, by rw [e]; exact rd_news w 5 _ _ _ rfl (by simp [maxLen]) (by simp only [Lib.byteCells, List.map_cons, List.map_nil, toNat_ofNat_lt ((240 + x / 262144)) (by omega), toNat_ofNat_lt ((128 + x / 4096 % 64)) (by omega), toNat_ofNat_lt ((128 + x / 64 % 64)) (by omega), toNat_ofNat_lt ((128 + x % 64)) (by omega)] <;> simp), (Below.refl _ _).alloc (Nat.le_refl _) _⟩
  · have d2 : decide ((1114111 : Int) < x) = true := by simp; omega
    go_enter Tryd.func35, Tryd.ntmps35
    go_wp2
    go_ret
    go_light
    have e : O = [] := by rw [← HO.out]; unfold octs; rw [if_neg (by rw [scal_iff]; omega)]
    exact ⟨_, rfl, by rw [e]; exact rd_nil _ _, Below.refl _ _⟩
end Go.Proofs.YtafconpneeggiaaDoor
