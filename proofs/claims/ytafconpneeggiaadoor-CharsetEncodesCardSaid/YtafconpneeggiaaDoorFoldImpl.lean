/- The walk of charset's Fold. A string of at most 16777216 bytes. -/
import Derived.Test.YtafconpneeggiaaDoorFoldRef
import Derived.Test.YtafconpneeggiaaDoorShelf
namespace Go.Proofs.YtafconpneeggiaaDoor
open Go.RowKit

/-- The loop: what has been put out. -/
def foldI : List UInt8 → List UInt8 → List UInt8
  | out, [] => Lib.trimSuffix out [32]
  | out, x :: r => if low x = 32 ∧ (out = [] ∨ out.getLast? = some 32) then foldI out r else foldI (out ++ [low x]) r

theorem last_cases (l : List UInt8) : l = [] ∨ ∃ p z, l = p ++ [z] := by
  rcases List.eq_nil_or_concat l with h | ⟨p, z, h⟩
  · exact .inl h
  · exact .inr ⟨p, z, by simpa using h⟩

theorem last_cell {w : World} {base : Nat} {e : TypeId} {v : Value} {p : List UInt8} {z : UInt8} (h : w.ownsRow base e 1 v (p.length + 1) (Lib.byteCells (p ++ [z]))) :
    ∃ g c, v = .slice (some ⟨g, 0, none⟩) (p.length + 1) c ∧ w.cell? ⟨g, p.length, none⟩ = some (.int .u8 z.toNat) := by
  obtain ⟨a, c, hv, _, _, _, h4⟩ := RdRow.of_owns h
  obtain ⟨b, o, rfl, _, hc⟩ := h4 p.length (.int .u8 z.toNat) (by simp [Lib.byteCells])
  rcases h.2 with ⟨rfl, h0⟩ | ⟨g, cap, cur, rfl, _⟩
  · cases hv
  · simp only [Value.slice.injEq, Option.some.injEq, Addr.mk.injEq, and_true, true_and] at hv
    obtain ⟨⟨rfl, rfl⟩, rfl⟩ := hv
    exact ⟨_, _, rfl, by simpa using hc⟩

set_option maxRecDepth 100000 in
set_option maxHeartbeats 4000000 in
theorem fold_any (s : ByteArray) (hs : s.size ≤ 16777216) (w : World) :
    Calls Tryd.prog 22 #[.string s] w fun e w' => e = .returned (.string ⟨(foldI [] s.data.toList).toArray⟩) ∧ Below w.heap.size w w' := by
  obtain ⟨F, hF⟩ : ∃ F, foldI [] s.data.toList = F := ⟨_, rfl⟩
  rw [hF]
  have HF := Lib.hid hF; clear hF
  go_enter Tryd.func22, Tryd.ntmps22
  go_wp2
  go_loopw [3, 8] (fun o i wr => ∃ (k : Nat) (out : List UInt8), k ≤ s.size ∧ i = .int .i64 k ∧ out.length ≤ k ∧
      wr.ownsRow w.heap.size 5 1 o out.length (Lib.byteCells out) ∧ Below w.heap.size w wr ∧ Hid (foldI out (s.data.toList.drop k) = F))
    (fun _ i _ => s.size - (intOf i).toNat)
  case atStart => exact ⟨0, [], Nat.zero_le _, rfl, Nat.le_refl _, World.ownsRow_nil _ _ _ _, Below.refl _ _, HF.out⟩
  case round =>
    obtain ⟨k, out, hk, rfl, hol, hown, hb, hf⟩ := hrel
    obtain ⟨oa, oc, rfl⟩ := owns_shape hown
    by_cases hlt : k < s.size
    · have hlz : (k : Int) < (s.size : Int) := by omega
      obtain ⟨x, hx, hd⟩ := at_list s k hlt
      have Hd := Lib.hid hd; clear hd
      have hx2 := x.toNat_lt
      rcases (by omega : x.toNat < 65 ∨ (65 ≤ x.toNat ∧ x.toNat < 91) ∨ 91 ≤ x.toNat) with c | ⟨c, c'⟩ | c
      · have d1 : decide ((65 : Int) ≤ x.toNat) = false := by rw [decide_eq_false_iff_not]; omega
        have d2 : decide ((x.toNat : Int) ≤ 90) = true := by rw [decide_eq_true_iff]; omega
        have hxy : low x = x := low_not x (by omega)
        obtain ⟨y, hy⟩ : ∃ y, x = y := ⟨_, rfl⟩
        have hy' : low x = y := by rw [hxy, hy]
        have HY := Lib.hid hy'; clear hy' hxy
        subst hy
        by_cases h32 : x = 32
        · have q : ((x.toNat : Int) == 32) = true := by rw [h32]; rfl
          rcases last_cases out with h0 | ⟨p, z, h0⟩
          · have hFn := Lib.hid (show foldI out (s.data.toList.drop (k + 1)) = F by have e := hf.out; rw [Hd.out, foldI, HY.out, if_pos ⟨h32, .inl h0⟩] at e; exact e)
            clear h32
            subst h0
            go_wp2
            go_roundw
            case rel => exact ⟨k + 1, [], by omega, by go_num, by simp, hown, hb, hFn⟩
            case measure => simp [intOf]; omega
          · subst h0
            have hlen : (p ++ [z]).length = p.length + 1 := by simp
            rw [hlen] at hown hol ⊢
            obtain ⟨g, cc, hgv, hcell⟩ := last_cell hown
            simp only [Value.slice.injEq, true_and] at hgv
            obtain ⟨rfl, rfl⟩ := hgv
            obtain ⟨n, hn⟩ : ∃ n, p.length = n := ⟨_, rfl⟩
            rw [hn] at hown hol hcell ⊢
            have Hn := Lib.hid hn; clear hn hlen
            by_cases hz : z = 32
            · have qz : ((z.toNat : Int) == 32) = true := by rw [hz]; rfl
              have hFn := Lib.hid (show foldI (p ++ [z]) (s.data.toList.drop (k + 1)) = F by have e := hf.out; rw [Hd.out, foldI, HY.out, if_pos ⟨h32, .inr (by rw [hz]; simp)⟩] at e; exact e)
              clear h32 hz
              go_wp2
              go_roundw
              case rel => exact ⟨k + 1, p ++ [z], by omega, by go_num, by simp; have := Hn.out; omega, by simpa [Hn.out] using hown, hb, hFn⟩
              case measure => simp [intOf]; omega
            · have qz : ((z.toNat : Int) == 32) = false := by rw [beq_eq_false_iff_ne]; intro e; apply hz; rw [← UInt8.toNat_inj]; exact_mod_cast e
              have hFn := Lib.hid (show foldI (p ++ [z] ++ [x]) (s.data.toList.drop (k + 1)) = F by have e := hf.out; rw [Hd.out, foldI, HY.out, if_neg (by rintro ⟨_, h | h⟩; simp at h; simp at h; exact hz h)] at e; exact e)
              clear h32 hz
              go_wp2_with (at_builtin; refine wpList_push rfl _ _ 31 rfl byteElem hb hb.size hown rfl rfl rfl ?_ ?_ ?_; (unfold maxLen; omega); omega; rintro v1 w1 hown1 hb1 - - - -; clear hown hb; have hown := hown1; have hb := hb1; clear hown1 hb1)
              go_roundw
              case rel => exact ⟨k + 1, p ++ [z] ++ [x], by omega, by go_num, by simp; have := Hn.out; omega, by simpa [Lib.byteCells, Hn.out] using hown, hb, hFn⟩
              case measure => simp [intOf]; omega
        · have q : ((x.toNat : Int) == 32) = false := by rw [beq_eq_false_iff_ne]; intro e; apply h32; rw [← UInt8.toNat_inj]; exact_mod_cast e
          have hFn := Lib.hid (show foldI (out ++ [x]) (s.data.toList.drop (k + 1)) = F by have e := hf.out; rw [Hd.out, foldI, HY.out, if_neg (fun h => h32 h.1)] at e; exact e)
          clear h32
          go_wp2_with (at_builtin; refine wpList_push rfl _ _ 31 rfl byteElem hb hb.size hown rfl rfl rfl ?_ ?_ ?_; (unfold maxLen; omega); omega; rintro v1 w1 hown1 hb1 - - - -; clear hown hb; have hown := hown1; have hb := hb1; clear hown1 hb1)
          go_roundw
          case rel => exact ⟨k + 1, out ++ [x], by omega, by go_num, by simp; omega, by simpa [Lib.byteCells] using hown, hb, hFn⟩
          case measure => simp [intOf]; omega
      · have d1 : decide ((65 : Int) ≤ x.toNat) = true := by rw [decide_eq_true_iff]; omega
        have d2 : decide ((x.toNat : Int) ≤ 90) = true := by rw [decide_eq_true_iff]; omega
        have hlow := low_up x c c'
        have hlow8 : IntKind.u8.wrap ((x.toNat : Int) + 32) = ((low x).toNat : Int) := by rw [hlow]; exact IntWalk.u8_in _ (by have := (low x).toNat_lt; omega)
        have hne : ¬ low x = 32 := by intro e; rw [e] at hlow; simp at hlow; omega
        obtain ⟨y, hy⟩ : ∃ y, low x = y := ⟨_, rfl⟩
        rw [hy] at hlow hlow8 hne
        have HY := Lib.hid hy; clear hy
        have q : ((y.toNat : Int) == 32) = false := by rw [beq_eq_false_iff_ne]; intro e; apply hne; rw [← UInt8.toNat_inj]; exact_mod_cast e
        have HN := Lib.hid hne; clear hne
        have hFn := Lib.hid (show foldI (out ++ [y]) (s.data.toList.drop (k + 1)) = F by have e := hf.out; rw [Hd.out, foldI, HY.out, if_neg (fun h => HN.out h.1)] at e; exact e)
        go_wp2_with (at_builtin; refine wpList_push rfl _ _ 31 rfl byteElem hb hb.size hown rfl rfl rfl ?_ ?_ ?_; (unfold maxLen; omega); omega; rintro v1 w1 hown1 hb1 - - - -; clear hown hb; have hown := hown1; have hb := hb1; clear hown1 hb1)
        go_roundw
        case rel => exact ⟨k + 1, out ++ [y], by omega, by go_num, by simp; omega, by simpa [Lib.byteCells] using hown, hb, hFn⟩
        case measure => simp [intOf]; omega
      · have d1 : decide ((65 : Int) ≤ x.toNat) = true := by rw [decide_eq_true_iff]; omega
        have d2 : decide ((x.toNat : Int) ≤ 90) = false := by rw [decide_eq_false_iff_not]; omega
        have hxy : low x = x := low_not x (by omega)
        obtain ⟨y, hy⟩ : ∃ y, x = y := ⟨_, rfl⟩
        have hy' : low x = y := by rw [hxy, hy]
        have HY := Lib.hid hy'; clear hy' hxy
        subst hy
        have h32 : ¬ x = 32 := by intro e; rw [e] at c; simp at c
        · have q : ((x.toNat : Int) == 32) = false := by rw [beq_eq_false_iff_ne]; intro e; apply h32; rw [← UInt8.toNat_inj]; exact_mod_cast e
          have hFn := Lib.hid (show foldI (out ++ [x]) (s.data.toList.drop (k + 1)) = F by have e := hf.out; rw [Hd.out, foldI, HY.out, if_neg (fun h => h32 h.1)] at e; exact e)
          clear h32
          go_wp2_with (at_builtin; refine wpList_push rfl _ _ 31 rfl byteElem hb hb.size hown rfl rfl rfl ?_ ?_ ?_; (unfold maxLen; omega); omega; rintro v1 w1 hown1 hb1 - - - -; clear hown hb; have hown := hown1; have hb := hb1; clear hown1 hb1)
          go_roundw
          case rel => exact ⟨k + 1, out ++ [x], by omega, by go_num, by simp; omega, by simpa [Lib.byteCells] using hown, hb, hFn⟩
          case measure => simp [intOf]; omega
    · have hlz : ¬ (k : Int) < (s.size : Int) := by omega
      have hstr := RdBytes.string (l := out) (RdRow.of_owns hown) 31 9 5 Tryd.underlying31 Tryd.underlying5 Tryd.underlying9
      have hFn := Lib.hid (show Lib.trimSuffix out [32] = F by have e := hf.out; rw [List.drop_of_length_le (by rw [Array.length_toList]; exact Nat.le_of_not_lt hlt)] at e; exact e)
      go_wp2_with (go_at_call 37; refine (Tryd.strings_TrimSuffix _ _ _ (by show out.toArray.size ≤ _; simp; omega)).mono ?_; rintro e w1 ⟨rfl, rfl⟩)
      go_ret
      refine ⟨?_, hb⟩
      rw [← hFn.out]
      rfl

end Go.Proofs.YtafconpneeggiaaDoor
