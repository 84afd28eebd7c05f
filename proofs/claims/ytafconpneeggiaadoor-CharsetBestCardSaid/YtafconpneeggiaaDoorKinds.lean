/- The walks of charset's Kinds and the reference's Kinds: the seven kinds in order. No condition. -/
import Derived.Test.YtafconpneeggiaaDoorEncode
import Derived.Test.YtafconpneeggiaaDoorRes
import Derived.Maps.RangeWalk
import Derived.Sort.OwnSortedInts
namespace Go.Proofs.YtafconpneeggiaaDoor
open Go.RowKit
open Go.Lib (validD decodeL)

def kindsL : List Int := [12, 19, 20, 22, 26, 28, 30]
/-- An element of the map of forms is not looked into. -/
def RT : Value → Option (DataW Unit × List MemPlace) := fun _ => some (.nil, [])

theorem forms_key {n b : Nat} {k : Int} : (∃ v, RelL (formsKv n b) (fun _ => true) k v) ↔ k ∈ kindsL := by
  unfold RelL formsKv kindsL
  simp only [List.mem_cons, List.not_mem_nil, or_false]
  constructor
  · rintro ⟨v, e, he, _, hk, _⟩
    rcases he with rfl | rfl | rfl | rfl | rfl | rfl | rfl <;> simp_all
  · intro h
    rcases h with rfl | rfl | rfl | rfl | rfl | rfl | rfl
    · exact ⟨_, _, .inl rfl, trivial, rfl, rfl⟩
    · exact ⟨_, _, .inr (.inl rfl), trivial, rfl, rfl⟩
    · exact ⟨_, _, .inr (.inr (.inl rfl)), trivial, rfl, rfl⟩
    · exact ⟨_, _, .inr (.inr (.inr (.inl rfl))), trivial, rfl, rfl⟩
    · exact ⟨_, _, .inr (.inr (.inr (.inr (.inl rfl)))), trivial, rfl, rfl⟩
    · exact ⟨_, _, .inr (.inr (.inr (.inr (.inr (.inl rfl))))), trivial, rfl, rfl⟩
    · exact ⟨_, _, .inr (.inr (.inr (.inr (.inr (.inr rfl))))), trivial, rfl, rfl⟩

theorem kind_wf {k : Int} (h : k ∈ kindsL) : (Lit.int .i64 k).wf = true := by
  unfold kindsL at h
  simp only [List.mem_cons, List.not_mem_nil, or_false] at h
  rcases h with rfl | rfl | rfl | rfl | rfl | rfl | rfl <;> decide

theorem own_forms {w : World} {m n b : Nat} (h : FormsAt w m n b) :
    ∃ D : DataW Unit, w.ownsMap Tryd.prog 3 RT m 7 D ∧ ∀ k : Int, Maps.has D (.int .i64 k) = true ↔ k ∈ kindsL := by
  obtain ⟨es, c, h1, h2, h3, h4, h5⟩ := h.1
  have hk : ∀ x ∈ es.toList, ∃ k : Int, x.key = .int .i64 k ∧ k ∈ kindsL := fun x hx => by
    obtain ⟨⟨k, hk⟩, _⟩ := h2 x hx
    exact ⟨k, hk, forms_key.1 ⟨x.val, (h5 k x.val).1 ⟨x, hx, hk, rfl⟩⟩⟩
  have hrd : ∀ x ∈ es.toList, ∀ k : Int, x.key = .int .i64 k → k ∈ kindsL → Go.WideElems.rd Tryd.prog 3 RT x = some (.int .i64 k, .nil) := fun x _ k hk hm => by
    unfold Go.WideElems.rd RT
    rw [hk, Maps.keyOf_int_mk Tryd.underlying3 (kind_wf hm)]
    rfl
  have hkeys : (es.toList.map fun e => intOf e.key).Perm kindsL := by
    refine (List.perm_ext_iff_of_nodup h3 (by decide)).2 fun k => ?_
    constructor
    · intro hm
      obtain ⟨x, hx, rfl⟩ := List.mem_map.1 hm
      obtain ⟨k, e, hk⟩ := hk x hx
      rw [e]; exact hk
    · intro hm
      obtain ⟨v, hv⟩ := forms_key.2 hm
      obtain ⟨x, hx, e, _⟩ := (h5 k v).2 hv
      exact List.mem_map.2 ⟨x, hx, by rw [e]; rfl⟩
  have hsz : es.size = 7 := by
    have := hkeys.length_eq
    simpa [kindsL] using this
  refine ⟨_, ⟨es, c, h1, ⟨by rw [hsz]; decide, ⟨fun x hx => (h2 x hx).2, h4, ?_⟩, fun x hx => ?_⟩, by omega, rfl⟩, fun k => ?_⟩
  · unfold List.Nodup at h3 ⊢
    rw [List.pairwise_map] at h3 ⊢
    exact h3.imp fun hne e => hne (by rw [e])
  · obtain ⟨k, e, hm⟩ := hk x hx
    exact ⟨_, hrd x hx k e hm⟩
  · rw [Maps.has_eq, List.any_eq_true]
    constructor
    · rintro ⟨p, hp, hs⟩
      obtain ⟨x, hx, rfl⟩ := List.mem_map.1 ((Go.WideShapes.sorted_perm _).mem_iff.1 hp)
      obtain ⟨k', e, hm⟩ := hk x hx
      rw [Go.WideElems.rg_of (hrd x hx k' e hm)] at hs
      have : k' = k := by simpa [Lit.sameKey] using hs
      rw [← this]; exact hm
    · intro hm
      obtain ⟨v, hv⟩ := forms_key.2 hm
      obtain ⟨x, hx, e, _⟩ := (h5 k v).2 hv
      refine ⟨(.int .i64 k, .nil), (Go.WideShapes.sorted_perm _).mem_iff.2 (List.mem_map.2 ⟨x, hx, Go.WideElems.rg_of (hrd x hx k e hm)⟩), by simp [Lit.sameKey]⟩

theorem kinds_sorted {ss : List Int} (h : ss.Perm kindsL) : ss.mergeSort (fun x y => decide (x ≤ y)) = kindsL := by
  have tr : ∀ a b c : Int, decide (a ≤ b) = true → decide (b ≤ c) = true → decide (a ≤ c) = true := fun a b c h1 h2 => by simp only [decide_eq_true_eq] at *; omega
  have tt : ∀ a b : Int, (decide (a ≤ b) || decide (b ≤ a)) = true := fun a b => by simp only [Bool.or_eq_true, decide_eq_true_eq]; omega
  refine List.Perm.eq_of_pairwise (le := fun a b => decide (a ≤ b) = true) (fun a b _ _ h1 h2 => ?_) (List.pairwise_mergeSort tr tt ss) (by decide) ((List.mergeSort_perm ss _).trans h)
  simp only [decide_eq_true_eq] at h1 h2
  omega

theorem intElem : ElemOk Tryd.prog 42 3 (.int .i64 0) 1 8 := ⟨Tryd.underlying42, infoInt, rfl, by decide⟩

/-- What the loop of Kinds knows: the keys that have come. -/
def KindsRel (m r n1 : Nat) (D : DataW Unit) (w1 : World) (o : Value) (wr : World) : Prop :=
  ∃ (left : Lit → Bool) (cnt : Nat) (ss : List Int), wr.ownsRow n1 3 1 o ss.length (ss.map (Value.int .i64)) ∧ wr.ranges Tryd.prog 3 RT m r 7 D left cnt ∧
    Hid (ss.Nodup ∧ (∀ k ∈ ss, k ∈ kindsL) ∧ ∀ k : Int, left (.int .i64 k) = true ↔ k ∈ kindsL ∧ k ∉ ss) ∧ Below n1 w1 wr

theorem kinds_len {ss : List Int} (h : ss.Nodup) (hk : ∀ k ∈ ss, k ∈ kindsL) : ss.length ≤ 7 := by
  have h1 : (kindsL.filter fun k => decide (k ∈ ss)).Perm ss := by
    refine (List.perm_ext_iff_of_nodup ((by decide : kindsL.Nodup).filter _) h).2 fun k => ?_
    rw [List.mem_filter, decide_eq_true_iff]
    exact ⟨fun h => h.2, fun h => ⟨hk k h, h⟩⟩
  have := h1.length_eq
  have h2 := List.length_filter_le (fun k => decide (k ∈ ss)) kindsL
  have h3 : kindsL.length = 7 := rfl
  omega

set_option maxRecDepth 100000 in
set_option maxHeartbeats 4000000 in
theorem kinds_any (w : World) :
    Calls Tryd.prog 25 #[] w fun e w' => ∃ v, e = .returned v ∧ RdRow (fun _ => True) w' v 7 1 (kindsL.map (Value.int .i64)) ∧ Below w.heap.size w w' := by
  go_enter Tryd.func25, Tryd.ntmps25
  go_wp2_with fail
  refine (forms_any _).mono ?_
  rintro e w1 ⟨m, n, b, rfl, hF, hl, hb⟩
  obtain ⟨D, hown, hD⟩ := own_forms hF
  have HD := Lib.hid hD; clear hD hF
  have hmlt := hown.lt
  go_wp2_with (at_range; refine wpList_range_own _ rfl _ _ rfl 3 52 (Maps.int_keyed Tryd.underlying3) Tryd.underlying54 RT m 7 D rfl hown ?_; intro w0 hrg0 hg0 hs0)
  obtain ⟨n1, hn1⟩ : ∃ n1, w1.heap.size = n1 := ⟨_, rfl⟩
  rw [hn1] at hrg0 hs0 hmlt ⊢
  have hb0 : Below n1 w1 w0 := ⟨hg0.os, hg0.tape, hg0.output, by omega, fun k hk => hg0.block k (by omega) (by simp)⟩
  have HN1 := Lib.hid hn1; have HB := Lib.hid hb; have HM := Lib.hid hmlt
  clear hn1 hg0 hs0 hown hb hl
  go_frame
  go_loopw [1] (fun o wr => KindsRel m n1 n1 D w1 o wr) (fun _ wr => wr.rangeLeft m n1)
  case atStart => exact ⟨_, _, [], World.ownsRow_nil _ _ _ _, hrg0, ⟨by simp, by simp, fun k => by rw [HD.out k]; simp⟩, hb0⟩
  case round =>
    obtain ⟨left, cnt, ss, hown, hrg, hss, hbr⟩ := hrel
    have hlen := kinds_len hss.out.1 hss.out.2.1
    have hnr := row_ne_iter hown hrg
    have hml := hrg.left_eq
    have HML := Lib.hid hml; clear hml
    have hsz : n1 ≤ wr.heap.size := by have := hbr.size; have := HN1.out; omega
    go_wp2_with (at_next; refine wpList_next_ranges _ rfl _ rfl 3 (Maps.int_keyed Tryd.underlying3) RT (Value.int .i64) id (fun key kl hk => by obtain ⟨x, hx, _⟩ := Maps.keyOf_int_inv Tryd.underlying3 hk; exact ⟨x, hx⟩) (fun v _ _ => ⟨v, rfl⟩) m n1 7 D left cnt rfl hrg ?_ ?_)
    · intro _ hl0
      have hperm : ss.Perm kindsL := (List.perm_ext_iff_of_nodup hss.out.1 (by decide)).2 fun k => ⟨hss.out.2.1 k, fun hk => by
        have h := hss.out.2.2 k
        rw [hl0] at h
        have h2 : ¬ (k ∈ kindsL ∧ k ∉ ss) := fun h3 => by have := h.2 h3; cases this
        exact Classical.byContradiction fun h3 => h2 ⟨hk, h3⟩⟩
      have hl7 : ss.length = 7 := hperm.length_eq
      rcases hown.2 with ⟨rfl, h0⟩ | ⟨g, cap, cur, rfl, hbase, hblk, h1, h2, h3, h4⟩
      · omega
      have hH := holds_of_blockI (e := 3) (ss := ss) hblk (by simpa using h4)
      have hgl : g < wr.heap.size := (Array.getElem?_eq_some_iff.1 hblk).1
      have hc := Tryd.slices_Sort_int g 0 cap ss wr hH hgl (by omega)
      have HC := Lib.hid hc; have HL7 := Lib.hid hl7; have HBK := Lib.hid hblk; have HQ := Lib.hid (And.intro h1 (And.intro h2 h3)); have HOW := hown
      clear hc hl0 hl7 hblk h1 h2 h3 h4 hH hown hrg hlen hnr
      go_wp2_with fail
      refine HC.out.mono ?_
      rintro e w5 ⟨rfl, nn, os, rfl⟩
      have hown5 := ownsRow_sortedI (n := nn) (os := os) (ss := ss) (ts := ss.mergeSort fun x y => decide (x ≤ y)) (by simp) hbase HBK.out HQ.out.1 HQ.out.2.1 HQ.out.2.2
      have hg5 := grownBy_sortedI (w := wr) (g := g) (n := nn) (os := os) (ss.mergeSort fun x y => decide (x ≤ y)).toArray
      obtain ⟨W5, hW5⟩ : ∃ W5, Go.Sort.grow (Go.Sort.putRow (Value.int .i64) (Go.Sort.ahead wr nn) g 0 (ss.mergeSort fun x y => decide (x ≤ y)).toArray) os = W5 := ⟨_, rfl⟩
      rw [hW5] at hown5 hg5 ⊢
      clear hW5
      rw [kinds_sorted hperm, HL7.out] at hown5
      have hb5 : Below n1 w1 W5 := hbr.grown hg5 hsz (fun k e => by cases e; exact hbase)
      rw [HL7.out]
      have HO := Lib.hid hown5; have HB5 := Lib.hid hb5
      clear hown5 hb5 hg5 HOW hbr
      go_wp2
      go_ret
      exact ⟨_, rfl, (RdRow.of_owns HO.out).mono fun _ _ _ => trivial, HB.out.trans (HB5.out.mono (by rw [← HN1.out]; exact HB.out.size))⟩
    · intro x c kl yd yp w2 cnt2 hkey hlk hv hat hrg2 hlt hg2 hs2 hen
      obtain ⟨x', ex, rfl, hwx⟩ := Maps.keyOf_int_inv Tryd.underlying3 hkey
      cases ex
      have hx := (hss.out.2.2 x).1 hlk
      have hown2 := hown.kept hg2 (.inr (Ne.symm hnr))
      have hsz2 : n1 ≤ w2.heap.size := by omega
      have hlt2 : ∀ k, u1.ownBlock = some k → n1 ≤ k := fun k e => (hown.lt k e).1
      have hb2 : Below n1 w1 w2 := hbr.grown hg2 hsz (fun k e => by cases e; exact Nat.le_refl _)
      have hlen8 : ss.length ≤ 7 := hlen
      have HX := Lib.hid hx; have HL2 := Lib.hid hlt2; have HLT := Lib.hid hlt; have HNR := Lib.hid hnr
      clear hs2 hg2 hown hrg hkey hlk hv hat hwx hx hlt2 hlt hnr hbr
      obtain ⟨oa, oc, rfl⟩ := owns_shape hown2
      go_wp2_with (at_builtin; refine wpList_push rfl _ _ 42 rfl intElem (Below.refl n1 _) hsz2 hown2 rfl rfl rfl ?_ ?_ ?_; (unfold maxLen; omega); omega; rintro v3 w3 hown3 hb3 hblk3 hsz3 - -)
      have hg3 : w2.grownBy w3 (Value.slice oa ss.length oc).ownBlock := ⟨hb3.os, hb3.tape, hb3.output, hsz3, fun k hk hne => hblk3 k (fun e => hne e) hk⟩
      have hrg3 := hrg2.kept hg3 (fun e => by have := HL2.out _ e.symm; have := HM.out; omega) HNR.out
      go_roundw
      case rel => exact ⟨_, cnt2, ss ++ [x], by simpa using hown3, hrg3, ⟨by
          rw [List.nodup_append]
          exact ⟨hss.out.1, by simp, fun a ha b hb e => by rw [List.mem_singleton.1 hb] at e; rw [e] at ha; exact HX.out.2 ha⟩, fun k hk => by
          rcases List.mem_append.1 hk with h | h
          · exact hss.out.2.1 k h
          · rw [List.mem_singleton.1 h]; exact HX.out.1, fun k => by
          have h := hss.out.2.2 k
          simp only [Lit.sameKey, Bool.and_eq_true, Bool.not_eq_true', List.mem_append, List.mem_singleton, not_or]
          rw [h]
          constructor
          · rintro ⟨⟨a, b⟩, c⟩
            exact ⟨a, b, by simpa using c⟩
          · rintro ⟨a, b, c⟩
            exact ⟨⟨a, b⟩, by simpa using c⟩⟩, hb2.trans hb3⟩
      case measure => rw [hrg3.left_eq, HML.out]; exact HLT.out

end Go.Proofs.YtafconpneeggiaaDoor
