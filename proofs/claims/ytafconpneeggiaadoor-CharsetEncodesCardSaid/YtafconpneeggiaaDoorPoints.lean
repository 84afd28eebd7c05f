/- The walk of the reference's Points: the code points of a string. A string of at most 16777216 bytes. -/
import Derived.Test.YtafconpneeggiaaDoorHas
import Derived.Deep.Light
import Derived.Deep.DeepCutAuto
import Derived.Deep.RegionWith
namespace Go.Proofs.YtafconpneeggiaaDoor
open Go.RowKit
open Go.Lib (validD decodeL)

abbrev RdInts (S : Nat → Prop) (w : World) (v : Value) (l : List Nat) : Prop := RdRow S w v l.length 1 (l.map fun x : Nat => Value.int .i64 (x : Int))

theorem rdInts_nil (S : Nat → Prop) (w : World) : RdInts S w (.slice none 0 0) [] :=
  ⟨none, 0, rfl, Nat.le_refl _, Nat.zero_le _, ⟨rfl, fun _ => rfl⟩, fun i u hu => by simp at hu⟩
theorem int_sub (a b : Nat) (h : b ≤ a) : Value.int .i64 ((a : Int) - b) = .int .i64 ((a - b : Nat) : Int) := by rw [Int.ofNat_sub h]

theorem int_eq (a b : Int) (h : a = b) : Value.int .i64 a = .int .i64 b := by rw [h]

theorem leadN_some {b n x : Nat} (h : leadN b = some (n, x)) : n ≤ 3 ∧ x ≤ b ∧ (b < 128 ∨ 192 ≤ b) := by
  unfold leadN at h
  (repeat' split at h) <;> simp at h <;> omega
theorem leadN_3 {b : Nat} (h1 : 240 ≤ b) (h2 : b < 248) : leadN b = some (3, b - 240) := by unfold leadN; rw [if_pos (by omega)]
theorem leadN_2 {b : Nat} (h1 : 224 ≤ b) (h2 : b < 240) : leadN b = some (2, b - 224) := by unfold leadN; rw [if_neg (by omega), if_pos (by omega)]
theorem leadN_1 {b : Nat} (h1 : 192 ≤ b) (h2 : b < 224) : leadN b = some (1, b - 192) := by unfold leadN; rw [if_neg (by omega), if_neg (by omega), if_pos (by omega)]
theorem leadN_0 {b : Nat} (h2 : b < 128) : leadN b = some (0, b) := by unfold leadN; rw [if_neg (by omega), if_neg (by omega), if_neg (by omega), if_neg (by omega)]
theorem leadN_no {b : Nat} (h : (128 ≤ b ∧ b < 192) ∨ 248 ≤ b) : leadN b = none := by unfold leadN; rw [if_neg (by omega), if_neg (by omega), if_neg (by omega), if_pos (by omega)]

theorem at_app (s : ByteArray) (a t : List UInt8) (h : s.data.toList = a ++ t) (k : Nat) (hk : k < t.length) :
    ∃ hh : a.length + k < s.size, s[a.length + k]'hh = t.getD k 0 := by
  have h2 : s.size = s.data.toList.length := by rw [Array.length_toList]; rfl
  have hsz : s.size = a.length + t.length := by rw [h2, h, List.length_append]
  refine ⟨by omega, ?_⟩
  have e : s[a.length + k]'(by omega) = s.data.toList[a.length + k]'(by omega) := by
    cases s; rfl
  rw [e, List.getD_eq_getElem?_getD]
  simp only [h]
  rw [List.getElem_append_right (by omega)]
  simp [List.getElem?_eq_getElem hk]

/-- The numbers that are still to come, from place k on. -/
theorem contN_step (t : List UInt8) (n k x : Nat) (h0 : ¬ (t.getD k 0).toNat < 128) (h1 : ¬ 192 ≤ (t.getD k 0).toNat) :
    contN t (n + 1) k x = contN t n (k + 1) (x * 64 + (t.getD k 0).toNat - 128) := by
  rw [contN, if_neg (by omega)]
theorem contN_bad (t : List UInt8) (n k x : Nat) (h : (t.getD k 0).toNat < 128 ∨ 192 ≤ (t.getD k 0).toNat) : contN t (n + 1) k x = none := by
  rw [contN, if_pos h]
theorem stepN_lead {t : List UInt8} (h : leadN (t.getD 0 0).toNat = none) : stepN t = none := by unfold stepN; rw [h]
theorem stepN_short {t : List UInt8} {n x : Nat} (h : leadN (t.getD 0 0).toNat = some (n, x)) (hn : t.length ≤ n) : stepN t = none := by
  unfold stepN; rw [h]; simp only []; rw [if_pos hn]
theorem stepN_cont {t : List UInt8} {n x : Nat} (h : leadN (t.getD 0 0).toNat = some (n, x)) (hn : ¬ t.length ≤ n) (hc : contN t n 1 x = none) : stepN t = none := by
  unfold stepN; rw [h]; simp only []; rw [if_neg hn, hc]
theorem stepN_oct {t : List UInt8} {n x y : Nat} (h : leadN (t.getD 0 0).toNat = some (n, x)) (hn : ¬ t.length ≤ n) (hc : contN t n 1 x = some y) (ho : octs y ≠ t.take (n + 1)) : stepN t = none := by
  unfold stepN; rw [h]; simp only []; rw [if_neg hn, hc]; simp only []; rw [if_neg ho]
theorem stepN_yes {t : List UInt8} {n x y : Nat} (h : leadN (t.getD 0 0).toNat = some (n, x)) (hn : ¬ t.length ≤ n) (hc : contN t n 1 x = some y) (ho : octs y = t.take (n + 1)) : stepN t = some (y, n + 1) := by
  unfold stepN; rw [h]; simp only []; rw [if_neg hn, hc]; simp only []; rw [if_pos ho]
theorem ext_take (s : ByteArray) (a t : List UInt8) (h : s.data.toList = a ++ t) (p n : Nat) (hp : a.length = p) :
    (s.extract p (p + n)).toList = t.take n := by
  subst hp
  rw [ByteArray.toList_eq, ByteArray.data_extract, Array.toList_extract, h]
  simp [List.extract_eq_take_drop]
theorem pts_round {s : ByteArray} {pre : List Nat} {t : List UInt8} {V : Bool} {R : List Nat} {X n : Nat} (hst : s.data.toList = pre.flatMap enc ++ t) (hv : validD t = V)
    (hr : V = true → R = pre ++ rns t) (ht : t ≠ []) (hs : stepN t = some (X, n)) :
    s.data.toList = (pre ++ [X]).flatMap enc ++ t.drop n ∧ ((pre ++ [X]).flatMap enc).length = (pre.flatMap enc).length + n ∧ validD (t.drop n) = V ∧
      (V = true → R = (pre ++ [X]) ++ rns (t.drop n)) ∧ 1 ≤ n := by
  obtain ⟨h1, h2, h3⟩ := stepN_some ht hs
  obtain ⟨h4, h5⟩ := valid_enc X h1 (t.drop n)
  rw [← h2] at h4 h5
  refine ⟨?_, ?_, ?_, ?_, ?_⟩
  · rw [hst, List.flatMap_append]
    simp only [List.flatMap_cons, List.flatMap_nil, List.append_nil, List.append_assoc]
    rw [← h2]
  · rw [List.flatMap_append]
    simp only [List.flatMap_cons, List.flatMap_nil, List.append_nil, List.length_append]
    rw [h3]
  · rw [← h4, hv]
  · intro hV
    rw [hr hV, h5]
    simp
  · rw [h3]; exact (enc_len X).1

theorem infoInt : (Tryd.prog.info? 3).map (fun i => (i.zero, i.size, i.bytes)) = some (some (.int .i64 0), 1, 8) := by kernel_rfl

/-- The code points of valid bytes; none of others. -/
def ptsR (l : List UInt8) : List Nat := if validD l then rns l else []
set_option maxRecDepth 100000 in
set_option maxHeartbeats 4000000 in
theorem Points_any (s : ByteArray) (hs : s.size ≤ 16777216) (w : World) :
    Calls Tryd.prog 27 #[.string s] w fun e w' => ∃ v, e = .returned (.tuple #[v, .bool (validD s.data.toList)]) ∧
      RdInts (fun b => w.heap.size ≤ b) w' v (ptsR s.data.toList) ∧ Below w.heap.size w w' := by
  obtain ⟨V, hV⟩ : ∃ V, validD s.data.toList = V := ⟨_, rfl⟩
  obtain ⟨R, hR⟩ : ∃ R, ptsR s.data.toList = R := ⟨_, rfl⟩
  rw [hV, hR]
  have HV := Lib.hid hV; have HR := Lib.hid hR; clear hV hR
  obtain ⟨i0, hi0, hz0, hz1, hz2⟩ := info_parts infoInt
  go_enter Tryd.func27, Tryd.ntmps27
  go_wp2
  go_loopw [4, 5] (fun o i wr => ∃ (pre : List Nat) (t : List UInt8), Hid (s.data.toList = pre.flatMap enc ++ t) ∧ i = .int .i64 ((pre.flatMap enc).length : Nat) ∧
      wr.ownsRow w.heap.size 3 1 o pre.length (pre.map fun x : Nat => Value.int .i64 (x : Int)) ∧ Below w.heap.size w wr ∧ Hid (validD t = V) ∧ Hid (V = true → R = pre ++ rns t) ∧ pre.length ≤ (pre.flatMap enc).length)
    (fun _ i _ => s.size - (intOf i).toNat)
  case atStart => exact ⟨[], s.data.toList, rfl, rfl, World.ownsRow_nil _ _ _ _, Below.refl _ _, HV.out, fun h => by rw [← HR.out]; unfold ptsR; rw [if_pos (HV.out.trans h)]; rfl, Nat.le_refl _⟩
  case round =>
    obtain ⟨pre, t, hst, rfl, hown, hb, hv, hr, hpl⟩ := hrel
    have hsz : s.size = (pre.flatMap enc).length + t.length := by
      have h2 : s.size = s.data.toList.length := by rw [Array.length_toList]; rfl
      rw [h2, hst.out, List.length_append]
    obtain ⟨p, hp⟩ : ∃ p, (pre.flatMap enc).length = p := ⟨_, rfl⟩
    have hat : ∀ k, k < t.length → ∃ hh : p + k < s.size, s[p + k]'hh = t.getD k 0 := fun k hk => by
      obtain ⟨h1, h2⟩ := at_app s _ _ hst.out k hk
      subst hp; exact ⟨h1, h2⟩
    rw [hp] at hpl ⊢
    have Hat := Lib.hid hat
    have hszp : s.size = p + t.length := by omega
    have Hsz := Lib.hid hszp
    clear hat hsz hszp
    by_cases ht : t.length = 0
    · have ht0 : t = [] := List.eq_nil_of_length_eq_zero ht
      have hlt : ¬ (p : Int) < (s.size : Int) := by have := Hsz.out; omega
      clear ht
      go_wp2
      go_ret2
      have hVt : V = true := by rw [← hv.out, ht0]; rfl
      have hRt : R = pre := by rw [hr.out hVt, ht0, rns_nil, List.append_nil]
      refine ⟨u4, ?_, ?_, hb⟩
      · rw [hVt]; rfl
      · rw [hRt]
        exact (RdRow.of_owns hown).mono fun b _ h => h.1
    · have hlt : (p : Int) < (s.size : Int) := by have := Hsz.out; omega
      obtain ⟨hh0, hb0⟩ := Hat.out 0 (by omega)
      obtain ⟨B0, hB0⟩ : ∃ B, t.getD 0 0 = B := ⟨_, rfl⟩
      have e0 : s[p]'(by omega) = B0 := by rw [← hB0, ← hb0]; rfl
      have w0 := wrap64_byte B0
      have lt0 := B0.toNat_lt
      have HB0 := Lib.hid hB0
      clear hB0 hb0
      have htne : t ≠ [] := fun e => ht (by rw [e]; rfl)
      rcases (by omega : (0 ≤ B0.toNat ∧ B0.toNat < 128) ∨ (128 ≤ B0.toNat ∧ B0.toNat < 192) ∨ (192 ≤ B0.toNat ∧ B0.toNat < 224) ∨ (224 ≤ B0.toNat ∧ B0.toNat < 240) ∨ (240 ≤ B0.toNat ∧ B0.toNat < 248) ∨ (248 ≤ B0.toNat)) with ⟨g, g'⟩ | ⟨g, g'⟩ | ⟨g, g'⟩ | ⟨g, g'⟩ | ⟨g, g'⟩ | g
      · skip
        have d0 : decide ((240 : Int) ≤ B0.toNat) = false := by rw [decide_eq_false_iff_not]; omega
        have d1 : decide ((B0.toNat : Int) < 248) = true := by rw [decide_eq_true_iff]; omega
        have d2 : decide ((224 : Int) ≤ B0.toNat) = false := by rw [decide_eq_false_iff_not]; omega
        have d3 : decide ((B0.toNat : Int) < 240) = true := by rw [decide_eq_true_iff]; omega
        have d4 : decide ((192 : Int) ≤ B0.toNat) = false := by rw [decide_eq_false_iff_not]; omega
        have d5 : decide ((B0.toNat : Int) < 224) = true := by rw [decide_eq_true_iff]; omega
        have d6 : decide ((128 : Int) ≤ B0.toNat) = false := by rw [decide_eq_false_iff_not]; omega
        have hl : leadN (t.getD 0 0).toNat = some (0, B0.toNat) := by rw [HB0.out]; exact leadN_0 (by omega)
        have Hl := Lib.hid hl; clear hl
        have hn : ¬ t.length ≤ 0 := by omega
        have dn : decide ((s.size : Int) ≤ (p : Int)) = false := by rw [decide_eq_false_iff_not]; have := Hsz.out; omega
        obtain ⟨X, hX⟩ : ∃ X, B0.toNat = X := ⟨_, rfl⟩
        have hXz : (B0.toNat : Int) = (X : Int) := by omega
        have hX40 : X < 1099511627776 := by omega
        have hc : contN t 0 1 B0.toNat = some X := by rw [← hX]; simp only [contN] <;> simp [*]
        have Hc := Lib.hid hc; clear hc
        clear hX
        go_wp2
        refine wp_loop_rounds 1 ?_
        rw [rounds_succ]
        go_wp2
        have f1 : (0 : Int) ≤ (p : Int) + 1 := by omega
        have f2 : (p : Int) + 1 ≤ (s.size : Int) := by have := Hsz.out; omega
        have f3 : (p : Int) ≤ (p : Int) + 1 := by omega
        have f4 : (0 : Int) ≤ (p : Int) := by omega
        have f5 : (p : Int) < (s.size : Int) := by have := Hsz.out; omega
        have k1 : IntKind.i64.wrap (p : Int) = p := IntWalk.i64_in _ (by omega)
        have k2 : IntKind.i64.wrap ((p : Int) + 1) = p + 1 := IntWalk.i64_in _ (by omega)
        go_region_with (go_at_call 35; refine (Octets_any X hX40 _).mono ?_; rintro e w' ⟨v, rfl, hrd, hb1⟩; have hcv := hrd.string 31 9 5 Tryd.underlying31 Tryd.underlying5 Tryd.underlying9)
        have Hrd := Lib.hid hrd; clear hrd; clear hcv
        have own1 := owns_below (owns_drew hown) hb1
        by_cases ho : octs X = t.take 1
        · have q : (octs X == (s.extract p (p + 1)).toList) = true := by rw [show (p + 1) = p + 1 from by omega, ext_take s _ t hst.out p 1 hp, ho]; simp
          rw [q]; clear q
          have Hrnd := pts_round hst.out hv.out hr.out htne (stepN_yes Hl.out hn Hc.out ho)
          have HR1 := Lib.hid Hrnd; clear Hrnd
          clear ho
          go_wp2_with (at_builtin; refine wpList_append_own _ rfl _ _ 42 rfl w.heap.size 3 i0 (.int .i64 0) 1 8 Tryd.underlying42 hi0 hz0 hz1 hz2 rfl (by decide) _ _ _ rfl (own1.alloc _) ⟨w'.heap.size, 0, none⟩ 1 1 [.int .i64 X] rfl rfl (cell_one_new _ _ _) ?c2 ?c3 ?c4 ?c5 ?_)
          case c2 => simp [Value.oneCell']
          case c3 => unfold maxLen; omega
          case c4 => omega
          case c5 => have := hb.size; have := hb1.size; simp at *; omega
          intro v' w1 hown1 hgrow _
          obtain ⟨r1, r2, r3, r4, r5⟩ := HR1.out
          have hB1 : Below w.heap.size w w' := hb.drew.trans (hb1.mono hb.size)
          have hB2 := (hB1.alloc hB1.size (.cells #[.int .i64 X] 3)).grown hgrow (by have := hB1.size; simp; omega) (fun k e => (own1.lt k e).1)
          have H1 := Lib.hid r1; have H2 := Lib.hid r2; have H3 := Lib.hid r3; have H4 := Lib.hid r4; clear r1 r2 r3 r4 r5
          go_wp2
          go_roundw
          case rel => exact ⟨pre ++ [X], t.drop 1, H1, by rw [H2.out, hp]; exact int_eq _ _ (by omega), by simpa using hown1, hB2, H3, H4, by rw [H2.out, hp, List.length_append]; simp; omega⟩
          case measure => simp [intOf]; have := Hsz.out; omega
        · have q : (octs X == (s.extract p (p + 1)).toList) = false := by rw [show (p + 1) = p + 1 from by omega, ext_take s _ t hst.out p 1 hp]; simp [ho]
          rw [q]; clear q
          have hVf : V = false := by rw [← hv.out]; exact valid_bad t htne (stepN_oct Hl.out hn Hc.out ho)
          have HVf := Lib.hid hVf; clear hVf; clear ho
          go_wp2
          go_ret2
          exact ⟨_, by rw [HVf.out]; rfl, by rw [← HR.out]; unfold ptsR; rw [HV.out, HVf.out, if_neg (by simp)]; exact rdInts_nil _ _, hb.drew.trans (hb1.mono hb.size)⟩
      · skip
        have d0 : decide ((240 : Int) ≤ B0.toNat) = false := by rw [decide_eq_false_iff_not]; omega
        have d1 : decide ((B0.toNat : Int) < 248) = true := by rw [decide_eq_true_iff]; omega
        have d2 : decide ((224 : Int) ≤ B0.toNat) = false := by rw [decide_eq_false_iff_not]; omega
        have d3 : decide ((B0.toNat : Int) < 240) = true := by rw [decide_eq_true_iff]; omega
        have d4 : decide ((192 : Int) ≤ B0.toNat) = false := by rw [decide_eq_false_iff_not]; omega
        have d5 : decide ((B0.toNat : Int) < 224) = true := by rw [decide_eq_true_iff]; omega
        have d6 : decide ((128 : Int) ≤ B0.toNat) = true := by rw [decide_eq_true_iff]; omega
        go_wp2
        go_ret2
        have hVf : V = false := by rw [← hv.out]; exact valid_bad t htne (stepN_lead (by rw [HB0.out]; exact leadN_no (by omega)))
        exact ⟨_, by rw [hVf]; rfl, by rw [← HR.out]; unfold ptsR; rw [HV.out, hVf, if_neg (by simp)]; exact rdInts_nil _ _, hb⟩
      · skip
        have d0 : decide ((240 : Int) ≤ B0.toNat) = false := by rw [decide_eq_false_iff_not]; omega
        have d1 : decide ((B0.toNat : Int) < 248) = true := by rw [decide_eq_true_iff]; omega
        have d2 : decide ((224 : Int) ≤ B0.toNat) = false := by rw [decide_eq_false_iff_not]; omega
        have d3 : decide ((B0.toNat : Int) < 240) = true := by rw [decide_eq_true_iff]; omega
        have d4 : decide ((192 : Int) ≤ B0.toNat) = true := by rw [decide_eq_true_iff]; omega
        have d5 : decide ((B0.toNat : Int) < 224) = true := by rw [decide_eq_true_iff]; omega
        have d6 : decide ((128 : Int) ≤ B0.toNat) = true := by rw [decide_eq_true_iff]; omega
        have hl : leadN (t.getD 0 0).toNat = some (1, (B0.toNat - 192)) := by rw [HB0.out]; exact leadN_1 (by omega) (by omega)
        have Hl := Lib.hid hl; clear hl
        by_cases hn : t.length ≤ 1
        · have dn : decide ((s.size : Int) ≤ (p : Int) + 1) = true := by rw [decide_eq_true_iff]; have := Hsz.out; omega
          go_wp2
          go_ret2
          have hVf : V = false := by rw [← hv.out]; exact valid_bad t htne (stepN_short Hl.out hn)
          exact ⟨_, by rw [hVf]; rfl, by rw [← HR.out]; unfold ptsR; rw [HV.out, hVf, if_neg (by simp)]; exact rdInts_nil _ _, hb⟩
        have dn : decide ((s.size : Int) ≤ (p : Int) + 1) = false := by rw [decide_eq_false_iff_not]; have := Hsz.out; omega
        obtain ⟨hh1, hb1⟩ := Hat.out 1 (by omega)
        obtain ⟨B1, hB1⟩ : ∃ B, t.getD 1 0 = B := ⟨_, rfl⟩
        have e1 : s[p + 1]'(by omega) = B1 := by rw [← hB1, ← hb1]
        have w1 := wrap64_byte B1
        have lt1 := B1.toNat_lt
        have HB1 := Lib.hid hB1
        clear hB1 hb1
        by_cases lo1 : B1.toNat < 128
        · have a1 : decide ((B1.toNat : Int) < 128) = true := by rw [decide_eq_true_iff]; omega
          go_wp2
          refine wp_loop_rounds 1 ?_
          rw [rounds_succ]
          go_wp2
          go_ret2
          have hVf : V = false := by rw [← hv.out]; exact valid_bad t htne (stepN_cont Hl.out hn (by simp only [contN, HB1.out]; simp [*]))
          exact ⟨_, by rw [hVf]; rfl, by rw [← HR.out]; unfold ptsR; rw [HV.out, hVf, if_neg (by simp)]; exact rdInts_nil _ _, hb⟩
        have a1 : decide ((B1.toNat : Int) < 128) = false := by rw [decide_eq_false_iff_not]; omega
        by_cases hi1 : 192 ≤ B1.toNat
        · have b1 : decide ((192 : Int) ≤ B1.toNat) = true := by rw [decide_eq_true_iff]; omega
          go_wp2
          refine wp_loop_rounds 1 ?_
          rw [rounds_succ]
          go_wp2
          go_ret2
          have hVf : V = false := by rw [← hv.out]; exact valid_bad t htne (stepN_cont Hl.out hn (by simp only [contN, HB1.out]; simp [*]))
          exact ⟨_, by rw [hVf]; rfl, by rw [← HR.out]; unfold ptsR; rw [HV.out, hVf, if_neg (by simp)]; exact rdInts_nil _ _, hb⟩
        have b1 : decide ((192 : Int) ≤ B1.toNat) = false := by rw [decide_eq_false_iff_not]; omega
        obtain ⟨X, hX⟩ : ∃ X, ((B0.toNat - 192) * 64 + B1.toNat - 128) = X := ⟨_, rfl⟩
        have hXz : (((B0.toNat : Int) - 192) * 64 + B1.toNat - 128) = (X : Int) := by omega
        have hX40 : X < 1099511627776 := by omega
        have hc : contN t 1 1 (B0.toNat - 192) = some X := by rw [← hX]; simp only [contN, HB1.out] <;> simp [*]
        have Hc := Lib.hid hc; clear hc
        clear hX
        go_wp2
        refine wp_loop_rounds 2 ?_
        rw [rounds_succ]
        go_wp2
        rw [rounds_succ]
        go_wp2
        have f1 : (0 : Int) ≤ (p : Int) + 1 + 1 := by omega
        have f2 : (p : Int) + 1 + 1 ≤ (s.size : Int) := by have := Hsz.out; omega
        have f3 : (p : Int) ≤ (p : Int) + 1 + 1 := by omega
        have f4 : (0 : Int) ≤ (p : Int) := by omega
        have f5 : (p : Int) + 1 < (s.size : Int) := by have := Hsz.out; omega
        have k1 : IntKind.i64.wrap (p : Int) = p := IntWalk.i64_in _ (by omega)
        have k2 : IntKind.i64.wrap ((p : Int) + 1) = p + 1 := IntWalk.i64_in _ (by omega)
        have k3 : IntKind.i64.wrap ((p : Int) + 1) = p + 1 := IntWalk.i64_in _ (by omega)
        have k4 : IntKind.i64.wrap ((p : Int) + 1 + 1) = p + 1 + 1 := IntWalk.i64_in _ (by omega)
        have k5 : IntKind.i64.wrap ((p : Int) + 2) = p + 2 := IntWalk.i64_in _ (by omega)
        go_region_with (go_at_call 35; refine (Octets_any X hX40 _).mono ?_; rintro e w' ⟨v, rfl, hrd, hb1⟩; have hcv := hrd.string 31 9 5 Tryd.underlying31 Tryd.underlying5 Tryd.underlying9)
        have Hrd := Lib.hid hrd; clear hrd; clear hcv
        have own1 := owns_below (owns_drew hown) hb1
        by_cases ho : octs X = t.take 2
        · have q : (octs X == (s.extract p ((p : Int) + 1 + 1).toNat).toList) = true := by rw [show ((p : Int) + 1 + 1).toNat = p + 2 from by omega, ext_take s _ t hst.out p 2 hp, ho]; simp
          rw [q]; clear q
          have Hrnd := pts_round hst.out hv.out hr.out htne (stepN_yes Hl.out hn Hc.out ho)
          have HR1 := Lib.hid Hrnd; clear Hrnd
          clear ho
          go_wp2_with (at_builtin; refine wpList_append_own _ rfl _ _ 42 rfl w.heap.size 3 i0 (.int .i64 0) 1 8 Tryd.underlying42 hi0 hz0 hz1 hz2 rfl (by decide) _ _ _ rfl (own1.alloc _) ⟨w'.heap.size, 0, none⟩ 1 1 [.int .i64 X] rfl rfl (cell_one_new _ _ _) ?c2 ?c3 ?c4 ?c5 ?_)
          case c2 => simp [Value.oneCell']
          case c3 => unfold maxLen; omega
          case c4 => omega
          case c5 => have := hb.size; have := hb1.size; simp at *; omega
          intro v' w1 hown1 hgrow _
          obtain ⟨r1, r2, r3, r4, r5⟩ := HR1.out
          have hB1 : Below w.heap.size w w' := hb.drew.trans (hb1.mono hb.size)
          have hB2 := (hB1.alloc hB1.size (.cells #[.int .i64 X] 3)).grown hgrow (by have := hB1.size; simp; omega) (fun k e => (own1.lt k e).1)
          have H1 := Lib.hid r1; have H2 := Lib.hid r2; have H3 := Lib.hid r3; have H4 := Lib.hid r4; clear r1 r2 r3 r4 r5
          go_wp2
          go_roundw
          case rel => exact ⟨pre ++ [X], t.drop 2, H1, by rw [H2.out, hp]; exact int_eq _ _ (by omega), by simpa using hown1, hB2, H3, H4, by rw [H2.out, hp, List.length_append]; simp; omega⟩
          case measure => simp [intOf]; have := Hsz.out; omega
        · have q : (octs X == (s.extract p ((p : Int) + 1 + 1).toNat).toList) = false := by rw [show ((p : Int) + 1 + 1).toNat = p + 2 from by omega, ext_take s _ t hst.out p 2 hp]; simp [ho]
          rw [q]; clear q
          have hVf : V = false := by rw [← hv.out]; exact valid_bad t htne (stepN_oct Hl.out hn Hc.out ho)
          have HVf := Lib.hid hVf; clear hVf; clear ho
          go_wp2
          go_ret2
          exact ⟨_, by rw [HVf.out]; rfl, by rw [← HR.out]; unfold ptsR; rw [HV.out, HVf.out, if_neg (by simp)]; exact rdInts_nil _ _, hb.drew.trans (hb1.mono hb.size)⟩
      · skip
        have d0 : decide ((240 : Int) ≤ B0.toNat) = false := by rw [decide_eq_false_iff_not]; omega
        have d1 : decide ((B0.toNat : Int) < 248) = true := by rw [decide_eq_true_iff]; omega
        have d2 : decide ((224 : Int) ≤ B0.toNat) = true := by rw [decide_eq_true_iff]; omega
        have d3 : decide ((B0.toNat : Int) < 240) = true := by rw [decide_eq_true_iff]; omega
        have d4 : decide ((192 : Int) ≤ B0.toNat) = true := by rw [decide_eq_true_iff]; omega
        have d5 : decide ((B0.toNat : Int) < 224) = false := by rw [decide_eq_false_iff_not]; omega
        have d6 : decide ((128 : Int) ≤ B0.toNat) = true := by rw [decide_eq_true_iff]; omega
        have hl : leadN (t.getD 0 0).toNat = some (2, (B0.toNat - 224)) := by rw [HB0.out]; exact leadN_2 (by omega) (by omega)
        have Hl := Lib.hid hl; clear hl
        by_cases hn : t.length ≤ 2
        · have dn : decide ((s.size : Int) ≤ (p : Int) + 2) = true := by rw [decide_eq_true_iff]; have := Hsz.out; omega
          go_wp2
          go_ret2
          have hVf : V = false := by rw [← hv.out]; exact valid_bad t htne (stepN_short Hl.out hn)
          exact ⟨_, by rw [hVf]; rfl, by rw [← HR.out]; unfold ptsR; rw [HV.out, hVf, if_neg (by simp)]; exact rdInts_nil _ _, hb⟩
        have dn : decide ((s.size : Int) ≤ (p : Int) + 2) = false := by rw [decide_eq_false_iff_not]; have := Hsz.out; omega
        obtain ⟨hh1, hb1⟩ := Hat.out 1 (by omega)
        obtain ⟨B1, hB1⟩ : ∃ B, t.getD 1 0 = B := ⟨_, rfl⟩
        have e1 : s[p + 1]'(by omega) = B1 := by rw [← hB1, ← hb1]
        have w1 := wrap64_byte B1
        have lt1 := B1.toNat_lt
        have HB1 := Lib.hid hB1
        clear hB1 hb1
        obtain ⟨hh2, hb2⟩ := Hat.out 2 (by omega)
        obtain ⟨B2, hB2⟩ : ∃ B, t.getD 2 0 = B := ⟨_, rfl⟩
        have e2 : s[p + 2]'(by omega) = B2 := by rw [← hB2, ← hb2]
        have w2 := wrap64_byte B2
        have lt2 := B2.toNat_lt
        have HB2 := Lib.hid hB2
        clear hB2 hb2
        by_cases lo1 : B1.toNat < 128
        · have a1 : decide ((B1.toNat : Int) < 128) = true := by rw [decide_eq_true_iff]; omega
          go_wp2
          refine wp_loop_rounds 1 ?_
          rw [rounds_succ]
          go_wp2
          go_ret2
          have hVf : V = false := by rw [← hv.out]; exact valid_bad t htne (stepN_cont Hl.out hn (by simp only [contN, HB1.out]; simp [*]))
          exact ⟨_, by rw [hVf]; rfl, by rw [← HR.out]; unfold ptsR; rw [HV.out, hVf, if_neg (by simp)]; exact rdInts_nil _ _, hb⟩
        have a1 : decide ((B1.toNat : Int) < 128) = false := by rw [decide_eq_false_iff_not]; omega
        by_cases hi1 : 192 ≤ B1.toNat
        · have b1 : decide ((192 : Int) ≤ B1.toNat) = true := by rw [decide_eq_true_iff]; omega
          go_wp2
          refine wp_loop_rounds 1 ?_
          rw [rounds_succ]
          go_wp2
          go_ret2
          have hVf : V = false := by rw [← hv.out]; exact valid_bad t htne (stepN_cont Hl.out hn (by simp only [contN, HB1.out]; simp [*]))
          exact ⟨_, by rw [hVf]; rfl, by rw [← HR.out]; unfold ptsR; rw [HV.out, hVf, if_neg (by simp)]; exact rdInts_nil _ _, hb⟩
        have b1 : decide ((192 : Int) ≤ B1.toNat) = false := by rw [decide_eq_false_iff_not]; omega
        by_cases lo2 : B2.toNat < 128
        · have a2 : decide ((B2.toNat : Int) < 128) = true := by rw [decide_eq_true_iff]; omega
          go_wp2
          refine wp_loop_rounds 2 ?_
          rw [rounds_succ]
          go_wp2
          rw [rounds_succ]
          go_wp2
          go_ret2
          have hVf : V = false := by rw [← hv.out]; exact valid_bad t htne (stepN_cont Hl.out hn (by simp only [contN, HB1.out, HB2.out]; simp [*]))
          exact ⟨_, by rw [hVf]; rfl, by rw [← HR.out]; unfold ptsR; rw [HV.out, hVf, if_neg (by simp)]; exact rdInts_nil _ _, hb⟩
        have a2 : decide ((B2.toNat : Int) < 128) = false := by rw [decide_eq_false_iff_not]; omega
        by_cases hi2 : 192 ≤ B2.toNat
        · have b2 : decide ((192 : Int) ≤ B2.toNat) = true := by rw [decide_eq_true_iff]; omega
          go_wp2
          refine wp_loop_rounds 2 ?_
          rw [rounds_succ]
          go_wp2
          rw [rounds_succ]
          go_wp2
          go_ret2
          have hVf : V = false := by rw [← hv.out]; exact valid_bad t htne (stepN_cont Hl.out hn (by simp only [contN, HB1.out, HB2.out]; simp [*]))
          exact ⟨_, by rw [hVf]; rfl, by rw [← HR.out]; unfold ptsR; rw [HV.out, hVf, if_neg (by simp)]; exact rdInts_nil _ _, hb⟩
        have b2 : decide ((192 : Int) ≤ B2.toNat) = false := by rw [decide_eq_false_iff_not]; omega
        obtain ⟨X, hX⟩ : ∃ X, (((B0.toNat - 224) * 64 + B1.toNat - 128) * 64 + B2.toNat - 128) = X := ⟨_, rfl⟩
        have hXz : ((((B0.toNat : Int) - 224) * 64 + B1.toNat - 128) * 64 + B2.toNat - 128) = (X : Int) := by omega
        have hX40 : X < 1099511627776 := by omega
        have hc : contN t 2 1 (B0.toNat - 224) = some X := by rw [← hX]; simp only [contN, HB1.out, HB2.out] <;> simp [*]
        have Hc := Lib.hid hc; clear hc
        clear hX
        go_wp2
        refine wp_loop_rounds 3 ?_
        rw [rounds_succ]
        go_wp2
        rw [rounds_succ]
        go_wp2
        rw [rounds_succ]
        go_wp2
        have f1 : (0 : Int) ≤ (p : Int) + 2 + 1 := by omega
        have f2 : (p : Int) + 2 + 1 ≤ (s.size : Int) := by have := Hsz.out; omega
        have f3 : (p : Int) ≤ (p : Int) + 2 + 1 := by omega
        have f4 : (0 : Int) ≤ (p : Int) := by omega
        have f5 : (p : Int) + 2 < (s.size : Int) := by have := Hsz.out; omega
        have k1 : IntKind.i64.wrap (p : Int) = p := IntWalk.i64_in _ (by omega)
        have k2 : IntKind.i64.wrap ((p : Int) + 1) = p + 1 := IntWalk.i64_in _ (by omega)
        have k3 : IntKind.i64.wrap ((p : Int) + 2) = p + 2 := IntWalk.i64_in _ (by omega)
        have k4 : IntKind.i64.wrap ((p : Int) + 2 + 1) = p + 2 + 1 := IntWalk.i64_in _ (by omega)
        have k5 : IntKind.i64.wrap ((p : Int) + 3) = p + 3 := IntWalk.i64_in _ (by omega)
        go_region_with (go_at_call 35; refine (Octets_any X hX40 _).mono ?_; rintro e w' ⟨v, rfl, hrd, hb1⟩; have hcv := hrd.string 31 9 5 Tryd.underlying31 Tryd.underlying5 Tryd.underlying9)
        have Hrd := Lib.hid hrd; clear hrd; clear hcv
        have own1 := owns_below (owns_drew hown) hb1
        by_cases ho : octs X = t.take 3
        · have q : (octs X == (s.extract p ((p : Int) + 2 + 1).toNat).toList) = true := by rw [show ((p : Int) + 2 + 1).toNat = p + 3 from by omega, ext_take s _ t hst.out p 3 hp, ho]; simp
          rw [q]; clear q
          have Hrnd := pts_round hst.out hv.out hr.out htne (stepN_yes Hl.out hn Hc.out ho)
          have HR1 := Lib.hid Hrnd; clear Hrnd
          clear ho
          go_wp2_with (at_builtin; refine wpList_append_own _ rfl _ _ 42 rfl w.heap.size 3 i0 (.int .i64 0) 1 8 Tryd.underlying42 hi0 hz0 hz1 hz2 rfl (by decide) _ _ _ rfl (own1.alloc _) ⟨w'.heap.size, 0, none⟩ 1 1 [.int .i64 X] rfl rfl (cell_one_new _ _ _) ?c2 ?c3 ?c4 ?c5 ?_)
          case c2 => simp [Value.oneCell']
          case c3 => unfold maxLen; omega
          case c4 => omega
          case c5 => have := hb.size; have := hb1.size; simp at *; omega
          intro v' w1 hown1 hgrow _
          obtain ⟨r1, r2, r3, r4, r5⟩ := HR1.out
          have hB1 : Below w.heap.size w w' := hb.drew.trans (hb1.mono hb.size)
          have hB2 := (hB1.alloc hB1.size (.cells #[.int .i64 X] 3)).grown hgrow (by have := hB1.size; simp; omega) (fun k e => (own1.lt k e).1)
          have H1 := Lib.hid r1; have H2 := Lib.hid r2; have H3 := Lib.hid r3; have H4 := Lib.hid r4; clear r1 r2 r3 r4 r5
          go_wp2
          go_roundw
          case rel => exact ⟨pre ++ [X], t.drop 3, H1, by rw [H2.out, hp]; exact int_eq _ _ (by omega), by simpa using hown1, hB2, H3, H4, by rw [H2.out, hp, List.length_append]; simp; omega⟩
          case measure => simp [intOf]; have := Hsz.out; omega
        · have q : (octs X == (s.extract p ((p : Int) + 2 + 1).toNat).toList) = false := by rw [show ((p : Int) + 2 + 1).toNat = p + 3 from by omega, ext_take s _ t hst.out p 3 hp]; simp [ho]
          rw [q]; clear q
          have hVf : V = false := by rw [← hv.out]; exact valid_bad t htne (stepN_oct Hl.out hn Hc.out ho)
          have HVf := Lib.hid hVf; clear hVf; clear ho
          go_wp2
          go_ret2
          exact ⟨_, by rw [HVf.out]; rfl, by rw [← HR.out]; unfold ptsR; rw [HV.out, HVf.out, if_neg (by simp)]; exact rdInts_nil _ _, hb.drew.trans (hb1.mono hb.size)⟩
      · skip
        have d0 : decide ((240 : Int) ≤ B0.toNat) = true := by rw [decide_eq_true_iff]; omega
        have d1 : decide ((B0.toNat : Int) < 248) = true := by rw [decide_eq_true_iff]; omega
        have d2 : decide ((224 : Int) ≤ B0.toNat) = true := by rw [decide_eq_true_iff]; omega
        have d3 : decide ((B0.toNat : Int) < 240) = false := by rw [decide_eq_false_iff_not]; omega
        have d4 : decide ((192 : Int) ≤ B0.toNat) = true := by rw [decide_eq_true_iff]; omega
        have d5 : decide ((B0.toNat : Int) < 224) = false := by rw [decide_eq_false_iff_not]; omega
        have d6 : decide ((128 : Int) ≤ B0.toNat) = true := by rw [decide_eq_true_iff]; omega
        have hl : leadN (t.getD 0 0).toNat = some (3, (B0.toNat - 240)) := by rw [HB0.out]; exact leadN_3 (by omega) (by omega)
        have Hl := Lib.hid hl; clear hl
        by_cases hn : t.length ≤ 3
        · have dn : decide ((s.size : Int) ≤ (p : Int) + 3) = true := by rw [decide_eq_true_iff]; have := Hsz.out; omega
          go_wp2
          go_ret2
          have hVf : V = false := by rw [← hv.out]; exact valid_bad t htne (stepN_short Hl.out hn)
          exact ⟨_, by rw [hVf]; rfl, by rw [← HR.out]; unfold ptsR; rw [HV.out, hVf, if_neg (by simp)]; exact rdInts_nil _ _, hb⟩
        have dn : decide ((s.size : Int) ≤ (p : Int) + 3) = false := by rw [decide_eq_false_iff_not]; have := Hsz.out; omega
        obtain ⟨hh1, hb1⟩ := Hat.out 1 (by omega)
        obtain ⟨B1, hB1⟩ : ∃ B, t.getD 1 0 = B := ⟨_, rfl⟩
        have e1 : s[p + 1]'(by omega) = B1 := by rw [← hB1, ← hb1]
        have w1 := wrap64_byte B1
        have lt1 := B1.toNat_lt
        have HB1 := Lib.hid hB1
        clear hB1 hb1
        obtain ⟨hh2, hb2⟩ := Hat.out 2 (by omega)
        obtain ⟨B2, hB2⟩ : ∃ B, t.getD 2 0 = B := ⟨_, rfl⟩
        have e2 : s[p + 2]'(by omega) = B2 := by rw [← hB2, ← hb2]
        have w2 := wrap64_byte B2
        have lt2 := B2.toNat_lt
        have HB2 := Lib.hid hB2
        clear hB2 hb2
        obtain ⟨hh3, hb3⟩ := Hat.out 3 (by omega)
        obtain ⟨B3, hB3⟩ : ∃ B, t.getD 3 0 = B := ⟨_, rfl⟩
        have e3 : s[p + 3]'(by omega) = B3 := by rw [← hB3, ← hb3]
        have w3 := wrap64_byte B3
        have lt3 := B3.toNat_lt
        have HB3 := Lib.hid hB3
        clear hB3 hb3
        by_cases lo1 : B1.toNat < 128
        · have a1 : decide ((B1.toNat : Int) < 128) = true := by rw [decide_eq_true_iff]; omega
          go_wp2
          refine wp_loop_rounds 1 ?_
          rw [rounds_succ]
          go_wp2
          go_ret2
          have hVf : V = false := by rw [← hv.out]; exact valid_bad t htne (stepN_cont Hl.out hn (by simp only [contN, HB1.out]; simp [*]))
          exact ⟨_, by rw [hVf]; rfl, by rw [← HR.out]; unfold ptsR; rw [HV.out, hVf, if_neg (by simp)]; exact rdInts_nil _ _, hb⟩
        have a1 : decide ((B1.toNat : Int) < 128) = false := by rw [decide_eq_false_iff_not]; omega
        by_cases hi1 : 192 ≤ B1.toNat
        · have b1 : decide ((192 : Int) ≤ B1.toNat) = true := by rw [decide_eq_true_iff]; omega
          go_wp2
          refine wp_loop_rounds 1 ?_
          rw [rounds_succ]
          go_wp2
          go_ret2
          have hVf : V = false := by rw [← hv.out]; exact valid_bad t htne (stepN_cont Hl.out hn (by simp only [contN, HB1.out]; simp [*]))
          exact ⟨_, by rw [hVf]; rfl, by rw [← HR.out]; unfold ptsR; rw [HV.out, hVf, if_neg (by simp)]; exact rdInts_nil _ _, hb⟩
        have b1 : decide ((192 : Int) ≤ B1.toNat) = false := by rw [decide_eq_false_iff_not]; omega
        by_cases lo2 : B2.toNat < 128
        · have a2 : decide ((B2.toNat : Int) < 128) = true := by rw [decide_eq_true_iff]; omega
          go_wp2
          refine wp_loop_rounds 2 ?_
          rw [rounds_succ]
          go_wp2
          rw [rounds_succ]
          go_wp2
          go_ret2
          have hVf : V = false := by rw [← hv.out]; exact valid_bad t htne (stepN_cont Hl.out hn (by simp only [contN, HB1.out, HB2.out]; simp [*]))
          exact ⟨_, by rw [hVf]; rfl, by rw [← HR.out]; unfold ptsR; rw [HV.out, hVf, if_neg (by simp)]; exact rdInts_nil _ _, hb⟩
        have a2 : decide ((B2.toNat : Int) < 128) = false := by rw [decide_eq_false_iff_not]; omega
        by_cases hi2 : 192 ≤ B2.toNat
        · have b2 : decide ((192 : Int) ≤ B2.toNat) = true := by rw [decide_eq_true_iff]; omega
          go_wp2
          refine wp_loop_rounds 2 ?_
          rw [rounds_succ]
          go_wp2
          rw [rounds_succ]
          go_wp2
          go_ret2
          have hVf : V = false := by rw [← hv.out]; exact valid_bad t htne (stepN_cont Hl.out hn (by simp only [contN, HB1.out, HB2.out]; simp [*]))
          exact ⟨_, by rw [hVf]; rfl, by rw [← HR.out]; unfold ptsR; rw [HV.out, hVf, if_neg (by simp)]; exact rdInts_nil _ _, hb⟩
        have b2 : decide ((192 : Int) ≤ B2.toNat) = false := by rw [decide_eq_false_iff_not]; omega
        by_cases lo3 : B3.toNat < 128
        · have a3 : decide ((B3.toNat : Int) < 128) = true := by rw [decide_eq_true_iff]; omega
          go_wp2
          refine wp_loop_rounds 3 ?_
          rw [rounds_succ]
          go_wp2
          rw [rounds_succ]
          go_wp2
          rw [rounds_succ]
          go_wp2
          go_ret2
          have hVf : V = false := by rw [← hv.out]; exact valid_bad t htne (stepN_cont Hl.out hn (by simp only [contN, HB1.out, HB2.out, HB3.out]; simp [*]))
          exact ⟨_, by rw [hVf]; rfl, by rw [← HR.out]; unfold ptsR; rw [HV.out, hVf, if_neg (by simp)]; exact rdInts_nil _ _, hb⟩
        have a3 : decide ((B3.toNat : Int) < 128) = false := by rw [decide_eq_false_iff_not]; omega
        by_cases hi3 : 192 ≤ B3.toNat
        · have b3 : decide ((192 : Int) ≤ B3.toNat) = true := by rw [decide_eq_true_iff]; omega
          go_wp2
          refine wp_loop_rounds 3 ?_
          rw [rounds_succ]
          go_wp2
          rw [rounds_succ]
          go_wp2
          rw [rounds_succ]
          go_wp2
          go_ret2
          have hVf : V = false := by rw [← hv.out]; exact valid_bad t htne (stepN_cont Hl.out hn (by simp only [contN, HB1.out, HB2.out, HB3.out]; simp [*]))
          exact ⟨_, by rw [hVf]; rfl, by rw [← HR.out]; unfold ptsR; rw [HV.out, hVf, if_neg (by simp)]; exact rdInts_nil _ _, hb⟩
        have b3 : decide ((192 : Int) ≤ B3.toNat) = false := by rw [decide_eq_false_iff_not]; omega
        obtain ⟨X, hX⟩ : ∃ X, ((((B0.toNat - 240) * 64 + B1.toNat - 128) * 64 + B2.toNat - 128) * 64 + B3.toNat - 128) = X := ⟨_, rfl⟩
        have hXz : (((((B0.toNat : Int) - 240) * 64 + B1.toNat - 128) * 64 + B2.toNat - 128) * 64 + B3.toNat - 128) = (X : Int) := by omega
        have hX40 : X < 1099511627776 := by omega
        have hc : contN t 3 1 (B0.toNat - 240) = some X := by rw [← hX]; simp only [contN, HB1.out, HB2.out, HB3.out] <;> simp [*]
        have Hc := Lib.hid hc; clear hc
        clear hX
        go_wp2
        refine wp_loop_rounds 4 ?_
        rw [rounds_succ]
        go_wp2
        rw [rounds_succ]
        go_wp2
        rw [rounds_succ]
        go_wp2
        rw [rounds_succ]
        go_wp2
        have f1 : (0 : Int) ≤ (p : Int) + 3 + 1 := by omega
        have f2 : (p : Int) + 3 + 1 ≤ (s.size : Int) := by have := Hsz.out; omega
        have f3 : (p : Int) ≤ (p : Int) + 3 + 1 := by omega
        have f4 : (0 : Int) ≤ (p : Int) := by omega
        have f5 : (p : Int) + 3 < (s.size : Int) := by have := Hsz.out; omega
        have k1 : IntKind.i64.wrap (p : Int) = p := IntWalk.i64_in _ (by omega)
        have k2 : IntKind.i64.wrap ((p : Int) + 1) = p + 1 := IntWalk.i64_in _ (by omega)
        have k3 : IntKind.i64.wrap ((p : Int) + 3) = p + 3 := IntWalk.i64_in _ (by omega)
        have k4 : IntKind.i64.wrap ((p : Int) + 3 + 1) = p + 3 + 1 := IntWalk.i64_in _ (by omega)
        have k5 : IntKind.i64.wrap ((p : Int) + 4) = p + 4 := IntWalk.i64_in _ (by omega)
        go_region_with (go_at_call 35; refine (Octets_any X hX40 _).mono ?_; rintro e w' ⟨v, rfl, hrd, hb1⟩; have hcv := hrd.string 31 9 5 Tryd.underlying31 Tryd.underlying5 Tryd.underlying9)
        have Hrd := Lib.hid hrd; clear hrd; clear hcv
        have own1 := owns_below (owns_drew hown) hb1
        by_cases ho : octs X = t.take 4
        · have q : (octs X == (s.extract p ((p : Int) + 3 + 1).toNat).toList) = true := by rw [show ((p : Int) + 3 + 1).toNat = p + 4 from by omega, ext_take s _ t hst.out p 4 hp, ho]; simp
          rw [q]; clear q
          have Hrnd := pts_round hst.out hv.out hr.out htne (stepN_yes Hl.out hn Hc.out ho)
          have HR1 := Lib.hid Hrnd; clear Hrnd
          clear ho
          go_wp2_with (at_builtin; refine wpList_append_own _ rfl _ _ 42 rfl w.heap.size 3 i0 (.int .i64 0) 1 8 Tryd.underlying42 hi0 hz0 hz1 hz2 rfl (by decide) _ _ _ rfl (own1.alloc _) ⟨w'.heap.size, 0, none⟩ 1 1 [.int .i64 X] rfl rfl (cell_one_new _ _ _) ?c2 ?c3 ?c4 ?c5 ?_)
          case c2 => simp [Value.oneCell']
          case c3 => unfold maxLen; omega
          case c4 => omega
          case c5 => have := hb.size; have := hb1.size; simp at *; omega
          intro v' w1 hown1 hgrow _
          obtain ⟨r1, r2, r3, r4, r5⟩ := HR1.out
          have hB1 : Below w.heap.size w w' := hb.drew.trans (hb1.mono hb.size)
          have hB2 := (hB1.alloc hB1.size (.cells #[.int .i64 X] 3)).grown hgrow (by have := hB1.size; simp; omega) (fun k e => (own1.lt k e).1)
          have H1 := Lib.hid r1; have H2 := Lib.hid r2; have H3 := Lib.hid r3; have H4 := Lib.hid r4; clear r1 r2 r3 r4 r5
          go_wp2
          go_roundw
          case rel => exact ⟨pre ++ [X], t.drop 4, H1, by rw [H2.out, hp]; exact int_eq _ _ (by omega), by simpa using hown1, hB2, H3, H4, by rw [H2.out, hp, List.length_append]; simp; omega⟩
          case measure => simp [intOf]; have := Hsz.out; omega
        · have q : (octs X == (s.extract p ((p : Int) + 3 + 1).toNat).toList) = false := by rw [show ((p : Int) + 3 + 1).toNat = p + 4 from by omega, ext_take s _ t hst.out p 4 hp]; simp [ho]
          rw [q]; clear q
          have hVf : V = false := by rw [← hv.out]; exact valid_bad t htne (stepN_oct Hl.out hn Hc.out ho)
          have HVf := Lib.hid hVf; clear hVf; clear ho
          go_wp2
          go_ret2
          exact ⟨_, by rw [HVf.out]; rfl, by rw [← HR.out]; unfold ptsR; rw [HV.out, HVf.out, if_neg (by simp)]; exact rdInts_nil _ _, hb.drew.trans (hb1.mono hb.size)⟩
      · skip
        have d0 : decide ((240 : Int) ≤ B0.toNat) = true := by rw [decide_eq_true_iff]; omega
        have d1 : decide ((B0.toNat : Int) < 248) = false := by rw [decide_eq_false_iff_not]; omega
        have d2 : decide ((224 : Int) ≤ B0.toNat) = true := by rw [decide_eq_true_iff]; omega
        have d3 : decide ((B0.toNat : Int) < 240) = false := by rw [decide_eq_false_iff_not]; omega
        have d4 : decide ((192 : Int) ≤ B0.toNat) = true := by rw [decide_eq_true_iff]; omega
        have d5 : decide ((B0.toNat : Int) < 224) = false := by rw [decide_eq_false_iff_not]; omega
        have d6 : decide ((128 : Int) ≤ B0.toNat) = true := by rw [decide_eq_true_iff]; omega
        go_wp2
        go_ret2
        have hVf : V = false := by rw [← hv.out]; exact valid_bad t htne (stepN_lead (by rw [HB0.out]; exact leadN_no (by omega)))
        exact ⟨_, by rw [hVf]; rfl, by rw [← HR.out]; unfold ptsR; rw [HV.out, hVf, if_neg (by simp)]; exact rdInts_nil _ _, hb⟩

end Go.Proofs.YtafconpneeggiaaDoor
