/- The walk of the reference's Fold. A string of at most 16777216 bytes. -/
import Derived.Test.YtafconpneeggiaaDoorRows
import Derived.Test.YtafconpneeggiaaDoorBase
import Derived.Deep.Light
import Derived.Deep.DeepCutAuto
namespace Go.Proofs.YtafconpneeggiaaDoor
open Go.RowKit

/-- A capital letter made small. -/
def low (x : UInt8) : UInt8 := if 65 ≤ x.toNat ∧ x.toNat < 91 then x + 32 else x
/-- The reference's loop: what has been put out, and whether a space is waiting. -/
def foldR : List UInt8 → Bool → List UInt8 → List UInt8
  | out, _, [] => out
  | out, sp, x :: r => if x = 32 then foldR out true r else foldR (out ++ (if sp = true ∧ out ≠ [] then [32] else []) ++ [low x]) false r

theorem byteElem : ElemOk Tryd.prog 31 5 (.int .u8 0) 1 1 := ⟨Tryd.underlying31, by kernel_rfl, rfl, by decide⟩

theorem at_list (s : ByteArray) (k : Nat) (h : k < s.size) : ∃ x, s[k]'h = x ∧ s.data.toList.drop k = x :: s.data.toList.drop (k + 1) := by
  refine ⟨_, rfl, ?_⟩
  have hl : k < s.data.toList.length := by rw [Array.length_toList]; exact h
  rw [List.drop_eq_getElem_cons hl]
  rfl
theorem low_up (x : UInt8) (h1 : 65 ≤ x.toNat) (h2 : x.toNat < 91) : ((x.toNat : Int) + 32) = ((low x).toNat : Int) := by
  unfold low; rw [if_pos ⟨h1, h2⟩, UInt8.toNat_add]; simp; omega
theorem low_not (x : UInt8) (h : ¬ (65 ≤ x.toNat ∧ x.toNat < 91)) : low x = x := by unfold low; rw [if_neg h]

theorem owns_shape {w : World} {base : Nat} {e : TypeId} {sz : Nat} {v : Value} {n : Nat} {cs : List Value} (h : w.ownsRow base e sz v n cs) : ∃ a c, v = .slice a n c := by
  obtain ⟨a, c, hv, _⟩ := RdRow.of_owns h
  exact ⟨a, c, hv⟩

set_option maxRecDepth 100000 in
set_option maxHeartbeats 2000000 in
theorem rFold_any (s : ByteArray) (hs : s.size ≤ 16777216) (w : World) :
    Calls Tryd.prog 23 #[.string s] w fun e w' => e = .returned (.string ⟨(foldR [] false s.data.toList).toArray⟩) ∧ Below w.heap.size w w' := by
  obtain ⟨F, hF⟩ : ∃ F, foldR [] false s.data.toList = F := ⟨_, rfl⟩
  rw [hF]
  have HF := Lib.hid hF; clear hF
  go_enter Tryd.func23, Tryd.ntmps23
  go_wp2
  go_loopw [3, 4, 5] (fun o sp i wr => ∃ (k : Nat) (out : List UInt8) (b : Bool), k ≤ s.size ∧ i = .int .i64 k ∧ sp = .bool b ∧ out.length ≤ 2 * k ∧
      wr.ownsRow w.heap.size 5 1 o out.length (Lib.byteCells out) ∧ Below w.heap.size w wr ∧ Hid (foldR out b (s.data.toList.drop k) = F))
    (fun _ _ i _ => s.size - (intOf i).toNat)
  case atStart => exact ⟨0, [], false, Nat.zero_le _, rfl, rfl, Nat.le_refl _, World.ownsRow_nil _ _ _ _, Below.refl _ _, HF.out⟩
  case round =>
    obtain ⟨k, out, b, hk, rfl, rfl, hol, hown, hb, hf⟩ := hrel
    obtain ⟨oa, oc, rfl⟩ := owns_shape hown
    by_cases hlt : k < s.size
    · have hlz : (k : Int) < (s.size : Int) := by omega
      obtain ⟨x, hx, hd⟩ := at_list s k hlt
      have Hd := Lib.hid hd; clear hd
      have hx2 := x.toNat_lt
      by_cases h32 : x = 32
      · have q : ((x.toNat : Int) == 32) = true := by rw [h32]; rfl
        have H32 := Lib.hid h32; clear h32
        go_wp2
        go_roundw
        case rel => exact ⟨k + 1, out, true, by omega, by go_num, rfl, by omega, hown, hb, by rw [← hf.out, Hd.out, foldR, if_pos H32.out]; exact rfl⟩
        case measure => simp [intOf]; omega
      · have q : ((x.toNat : Int) == 32) = false := by rw [beq_eq_false_iff_ne]; intro e; apply h32; rw [← UInt8.toNat_inj]; exact_mod_cast e
        have H32 := Lib.hid h32; clear h32
        rcases (by omega : x.toNat < 65 ∨ (65 ≤ x.toNat ∧ x.toNat < 91) ∨ 91 ≤ x.toNat) with c | ⟨c, c'⟩ | c
        · have d1 : decide ((65 : Int) ≤ x.toNat) = false := by rw [decide_eq_false_iff_not]; omega
          have d2 : decide ((x.toNat : Int) < 91) = true := by rw [decide_eq_true_iff]; omega
          obtain ⟨y, hy⟩ : ∃ y, low x = y := ⟨_, rfl⟩
          have hxy : x = y := by rw [← hy, low_not x (by omega)]
          have HY := Lib.hid hy; clear hy
          have HXY := Lib.hid hxy; clear hxy
          cases b with
          | false =>
            go_wp2_with (at_builtin; refine wpList_push rfl _ _ 31 rfl byteElem hb hb.size hown rfl rfl rfl ?_ ?_ ?_; (unfold maxLen; omega); omega; rintro v1 w1 hown1 hb1 - - - -; clear hown hb; have hown := hown1; have hb := hb1; clear hown1 hb1)
            go_roundw
            case rel => exact ⟨k + 1, out ++ [y], false, by omega, by go_num, rfl, by simp; omega, by simpa [Lib.byteCells, ← HXY.out] using hown, hb, Lib.hid (by have e := hf.out; rw [Hd.out, foldR, if_neg H32.out, HY.out] at e; simpa using e)⟩
            case measure => simp [intOf]; omega
          | true =>
            cases out with
            | nil =>
              go_wp2_with (at_builtin; refine wpList_push rfl _ _ 31 rfl byteElem hb hb.size hown rfl rfl rfl ?_ ?_ ?_; (unfold maxLen; omega); omega; rintro v1 w1 hown1 hb1 - - - -; clear hown hb; have hown := hown1; have hb := hb1; clear hown1 hb1)
              go_roundw
              case rel => exact ⟨k + 1, [y], false, by omega, by go_num, rfl, by simp; omega, by simpa [Lib.byteCells, ← HXY.out] using hown, hb, Lib.hid (by have e := hf.out; rw [Hd.out, foldR, if_neg H32.out, HY.out] at e; simpa using e)⟩
              case measure => simp [intOf]; omega
            | cons z out =>
              go_wp2_with (at_builtin; refine wpList_push rfl _ _ 31 rfl byteElem hb hb.size hown rfl rfl rfl ?_ ?_ ?_; (unfold maxLen; omega); omega; rintro v1 w1 hown1 hb1 - - - -; clear hown hb; have hown := hown1; have hb := hb1; clear hown1 hb1)
              go_roundw
              case rel => exact ⟨k + 1, (z :: out) ++ [32] ++ [y], false, by omega, by go_num, rfl, by simp at *; omega, by simpa [Lib.byteCells, ← HXY.out] using hown, hb, Lib.hid (by have e := hf.out; rw [Hd.out, foldR, if_neg H32.out, HY.out] at e; simpa using e)⟩
              case measure => simp [intOf]; omega
        · have d1 : decide ((65 : Int) ≤ x.toNat) = true := by rw [decide_eq_true_iff]; omega
          have d2 : decide ((x.toNat : Int) < 91) = true := by rw [decide_eq_true_iff]; omega
          have hlow := low_up x c c'
          have hlow8 : IntKind.u8.wrap ((x.toNat : Int) + 32) = ((low x).toNat : Int) := by rw [hlow]; exact IntWalk.u8_in _ (by have := (low x).toNat_lt; omega)
          obtain ⟨y, hy⟩ : ∃ y, low x = y := ⟨_, rfl⟩
          rw [hy] at hlow hlow8
          have HY := Lib.hid hy; clear hy
          cases b with
          | false =>
            go_wp2_with (at_builtin; refine wpList_push rfl _ _ 31 rfl byteElem hb hb.size hown rfl rfl rfl ?_ ?_ ?_; (unfold maxLen; omega); omega; rintro v1 w1 hown1 hb1 - - - -; clear hown hb; have hown := hown1; have hb := hb1; clear hown1 hb1)
            go_roundw
            case rel => exact ⟨k + 1, out ++ [y], false, by omega, by go_num, rfl, by simp; omega, by simpa [Lib.byteCells] using hown, hb, Lib.hid (by have e := hf.out; rw [Hd.out, foldR, if_neg H32.out, HY.out] at e; simpa using e)⟩
            case measure => simp [intOf]; omega
          | true =>
            cases out with
            | nil =>
              go_wp2_with (at_builtin; refine wpList_push rfl _ _ 31 rfl byteElem hb hb.size hown rfl rfl rfl ?_ ?_ ?_; (unfold maxLen; omega); omega; rintro v1 w1 hown1 hb1 - - - -; clear hown hb; have hown := hown1; have hb := hb1; clear hown1 hb1)
              go_roundw
              case rel => exact ⟨k + 1, [y], false, by omega, by go_num, rfl, by simp; omega, by simpa [Lib.byteCells] using hown, hb, Lib.hid (by have e := hf.out; rw [Hd.out, foldR, if_neg H32.out, HY.out] at e; simpa using e)⟩
              case measure => simp [intOf]; omega
            | cons z out =>
              go_wp2_with (at_builtin; refine wpList_push rfl _ _ 31 rfl byteElem hb hb.size hown rfl rfl rfl ?_ ?_ ?_; (unfold maxLen; omega); omega; rintro v1 w1 hown1 hb1 - - - -; clear hown hb; have hown := hown1; have hb := hb1; clear hown1 hb1)
              go_roundw
              case rel => exact ⟨k + 1, (z :: out) ++ [32] ++ [y], false, by omega, by go_num, rfl, by simp at *; omega, by simpa [Lib.byteCells] using hown, hb, Lib.hid (by have e := hf.out; rw [Hd.out, foldR, if_neg H32.out, HY.out] at e; simpa using e)⟩
              case measure => simp [intOf]; omega
        · have d1 : decide ((65 : Int) ≤ x.toNat) = true := by rw [decide_eq_true_iff]; omega
          have d2 : decide ((x.toNat : Int) < 91) = false := by rw [decide_eq_false_iff_not]; omega
          obtain ⟨y, hy⟩ : ∃ y, low x = y := ⟨_, rfl⟩
          have hxy : x = y := by rw [← hy, low_not x (by omega)]
          have HY := Lib.hid hy; clear hy
          have HXY := Lib.hid hxy; clear hxy
          cases b with
          | false =>
            go_wp2_with (at_builtin; refine wpList_push rfl _ _ 31 rfl byteElem hb hb.size hown rfl rfl rfl ?_ ?_ ?_; (unfold maxLen; omega); omega; rintro v1 w1 hown1 hb1 - - - -; clear hown hb; have hown := hown1; have hb := hb1; clear hown1 hb1)
            go_roundw
            case rel => exact ⟨k + 1, out ++ [y], false, by omega, by go_num, rfl, by simp; omega, by simpa [Lib.byteCells, ← HXY.out] using hown, hb, Lib.hid (by have e := hf.out; rw [Hd.out, foldR, if_neg H32.out, HY.out] at e; simpa using e)⟩
            case measure => simp [intOf]; omega
          | true =>
            cases out with
            | nil =>
              go_wp2_with (at_builtin; refine wpList_push rfl _ _ 31 rfl byteElem hb hb.size hown rfl rfl rfl ?_ ?_ ?_; (unfold maxLen; omega); omega; rintro v1 w1 hown1 hb1 - - - -; clear hown hb; have hown := hown1; have hb := hb1; clear hown1 hb1)
              go_roundw
              case rel => exact ⟨k + 1, [y], false, by omega, by go_num, rfl, by simp; omega, by simpa [Lib.byteCells, ← HXY.out] using hown, hb, Lib.hid (by have e := hf.out; rw [Hd.out, foldR, if_neg H32.out, HY.out] at e; simpa using e)⟩
              case measure => simp [intOf]; omega
            | cons z out =>
              go_wp2_with (at_builtin; refine wpList_push rfl _ _ 31 rfl byteElem hb hb.size hown rfl rfl rfl ?_ ?_ ?_; (unfold maxLen; omega); omega; rintro v1 w1 hown1 hb1 - - - -; clear hown hb; have hown := hown1; have hb := hb1; clear hown1 hb1)
              go_roundw
              case rel => exact ⟨k + 1, (z :: out) ++ [32] ++ [y], false, by omega, by go_num, rfl, by simp at *; omega, by simpa [Lib.byteCells, ← HXY.out] using hown, hb, Lib.hid (by have e := hf.out; rw [Hd.out, foldR, if_neg H32.out, HY.out] at e; simpa using e)⟩
              case measure => simp [intOf]; omega
    · have hlz : ¬ (k : Int) < (s.size : Int) := by omega
      have hstr := RdBytes.string (l := out) (RdRow.of_owns hown) 31 9 5 Tryd.underlying31 Tryd.underlying5 Tryd.underlying9
      go_wp2
      go_ret
      refine ⟨?_, hb⟩
      rw [← hf.out, List.drop_of_length_le (by rw [Array.length_toList]; exact Nat.le_of_not_lt hlt)]
      rfl

end Go.Proofs.YtafconpneeggiaaDoor
