/- MH: the texts UnderR PermR Few LawPerm Opn OpnG, one behind the other. No condition but what each lemma says. -/
import Derived.Test.YtblabcopgeobgaaGreatDoorMG
import Derived.Test.YtblabcopgeobgaaGreatDoorME
import Derived.Test.YtblabcopgeobgaaGreatDoorRows
import Derived.ProofKit
import Derived.LaidMore
import Derived.OpenShut
import Derived.ChangeArms
import Derived.Lib.SmallJoins
import Derived.SevenTiedAt
import Derived.WideKeyArgs
/- The reference's Under. Strings of at most 16777216 bytes. -/
namespace Go.Proofs.YtblabcopgeobgaaGreatDoor
open Go.RowKit

end Go.Proofs.YtblabcopgeobgaaGreatDoor

/- The reference's Permits. Sizes that memory bears. -/
namespace Go.Proofs.YtblabcopgeobgaaGreatDoor
open Go.RowKit

end Go.Proofs.YtblabcopgeobgaaGreatDoor

/- The references' tests of sizes: names, general names, lists of them. Sizes that memory bears. -/
namespace Go.Proofs.YtblabcopgeobgaaGreatDoor
open Go.RowKit

theorem vals_snoc {r : List Att} {i : Nat} {a : Att} (h : r[i]? = some a) : vals (r.take (i + 1)) = vals (r.take i) + a.val.length := sum_snoc (fun a : Att => a.val.length) h
theorem fewAt_le {a : Att} (h : fewAt a = true) : a.val.length ≤ 1000 := by
  unfold fewAt at h; simp at h; exact h.2
theorem vals_le {r : List Att} (h : r.all fewAt = true) : vals r ≤ r.length * 1000 :=
  sum_le _ 1000 r fun x hx => fewAt_le (List.all_eq_true.1 h x hx)
theorem take_cut {α : Type} {l : List α} {i m : Nat} (hi : i ≤ l.length) (hm : i ≤ m) (h : ¬ (i < l.length ∧ i < m)) : l.take i = l.take m := by
  rcases Nat.lt_or_ge i l.length with h1 | h1
  · rw [show i = m by omega]
  · rw [List.take_of_length_le h1, List.take_of_length_le (by omega)]
set_option maxRecDepth 100000 in
set_option maxHeartbeats 8000000 in
theorem rFewRdn_any (r : List Att) (h : r.length ≤ big ∧ ∀ a ∈ r, a.ok) : ACalls Tryz.prog 98 [.d (rdnD r)] (fun x => x = bv (fewRdn r)) := by
  have hl := h.1
  unfold big at hl
  refine acalls_vc 36 _ tabOk mixed Tryz.func98 rfl (by kernel_rfl) rfl rfl rfl rfl fun W0 fp0 z0 => ?_
  (all_goals (conv => whnf))
  refine NLoop.go (fun i : Nat => i ≤ r.length ∧ i ≤ 10 ∧ (r.take i).all fewAt = true) (fun i => r.length - i) (fun i => ⟨[(0, .d (rdnD r)), (3, iv (vals (r.take i))), (4, iv i)], [], []⟩) 0 ⟨by omega, by omega, rfl⟩ (by ((repeat' (first | exact trivial | exact leW_refl _ | refine And.intro ?_ ?_)))) ?_
  rintro i ⟨hi, hi10, ha⟩
  have hv := vals_le ha
  rw [List.length_take] at hv
  by_cases hik : i < r.length ∧ i < 10
  · obtain ⟨hik, hi9⟩ := hik
    obtain ⟨a, hg⟩ : ∃ p, r[i]? = some p := ⟨_, List.getElem?_eq_getElem hik⟩
    have hF := rFewAt_any a (h.2 a (List.mem_of_getElem? hg))
    cases hf : fewAt a
    · rw [hf] at hF
      rw [show fewRdn r = false by unfold fewRdn; rw [all_cut fewAt hg (m := 10) hi9 hf]; rfl]
      (repeat' ((conv => whnf); first | refine NBr.yes ?_ | refine NIdx.tab (fun _ => rfl) hg ?_ | refine NCall.eq (hF) (by first | rfl | (simp only [AV.gives, AV.give, D.un, un_bytesD]; first | done | rfl)) ?_ | (refine NBr.dec (fun hc hcP => ?_) (fun hc hcP => ?_) <;> try (exfalso; omega)))); (all_goals (conv => whnf))
      all_goals (refine NEnd.eq ?_; (repeat' (first | exact leW_refl _ | refine And.intro ?_ ?_ | exact rfl)))
    · rw [hf] at hF
      have hle := fewAt_le hf
      (repeat' ((conv => whnf); first | refine NBr.yes ?_ | refine NBr.no ?_ | refine NIdx.tab (fun _ => rfl) hg ?_ | refine NCall.eq (hF) (by first | rfl | (simp only [AV.gives, AV.give, D.un, un_bytesD]; first | done | rfl)) ?_ | refine NInt.as (((vals (r.take i) + a.val.length : Nat) : Int) ) ( (by rw [IntWalk.i64_in _ (by omega)]; omega)) ?_ | (with_reducible refine NInt.i64 ?_) | (refine NBr.dec (fun hc hcP => ?_) (fun hc hcP => ?_) <;> try (exfalso; omega)))); (all_goals (conv => whnf))
      refine ⟨i + 1, ⟨by omega, by omega, by rw [all_snoc fewAt hg, ha, hf]; rfl⟩, by omega, ?_⟩
      rw [vals_snoc hg]
      ((repeat' (first | exact trivial | exact leW_refl _ | refine And.intro ?_ ?_)))
  · have hR : fewRdn r = (decide (r.length ≤ 8) && decide (vals (r.take i) ≤ 2000)) := by unfold fewRdn; rw [← take_cut hi hi10 hik, ha]; rfl
    rw [hR]
    generalize vals (r.take i) = s at hv ⊢
    (repeat' ((conv => whnf); first | refine NBr.yes ?_ | refine NBr.no ?_ | (refine NBr.dec (fun hc hcP => ?_) (fun hc hcP => ?_) <;> try (exfalso; omega)))); (all_goals (conv => whnf))
    all_goals (refine NEnd.eq ?_; (repeat' (first | refine And.intro ?_ ?_ | exact rfl)); (all_goals (conv => whnf)))
    all_goals (apply Bool.eq_iff_iff.2; simp only [Bool.and_eq_true, decide_eq_true_eq, Bool.false_eq_true, false_iff] <;> omega)
theorem fewRdn_facts {r : List Att} (h : fewRdn r = true) : r.length ≤ 8 ∧ r.all fewAt = true ∧ vals r ≤ 2000 := by
  unfold fewRdn at h
  simp only [Bool.and_eq_true, decide_eq_true_eq] at h
  obtain ⟨h1, h2, h3⟩ := h
  rw [List.take_of_length_le (by omega)] at h1 h3
  exact ⟨h2, h1, h3⟩
def valsN (n : List (List Att)) : Nat := (n.map vals).sum
theorem valsN_snoc {n : List (List Att)} {i : Nat} {r : List Att} (h : n[i]? = some r) : valsN (n.take (i + 1)) = valsN (n.take i) + vals r := sum_snoc vals h
theorem valsN_le {n : List (List Att)} (h : n.all fewRdn = true) : valsN n ≤ n.length * 2000 :=
  sum_le _ 2000 n fun x hx => (fewRdn_facts (List.all_eq_true.1 h x hx)).2.2
def fewName (n : List (List Att)) : Bool := (n.take 20).all fewRdn && (decide (n.length ≤ 10) && decide (valsN (n.take 20) ≤ 2000))
theorem all_take {α : Type} {f : α → Bool} {l : List α} (h : l.all f = true) (k : Nat) : (l.take k).all f = true :=
  List.all_eq_true.2 fun x hx => List.all_eq_true.1 h x (List.mem_of_mem_take hx)
set_option maxRecDepth 100000 in
set_option maxHeartbeats 8000000 in
theorem rFewName_any (n : List (List Att)) (h : n.length ≤ big ∧ ∀ r ∈ n, r.length ≤ big ∧ ∀ a ∈ r, a.ok) : ACalls Tryz.prog 71 [.d (nameD n)] (fun x => x = bv (fewName n)) := by
  have hl := h.1
  unfold big at hl
  refine acalls_vc 49 _ tabOk mixed Tryz.func71 rfl (by kernel_rfl) rfl rfl rfl rfl fun W0 fp0 z0 => ?_
  (all_goals (conv => whnf))
  refine NLoop.go (fun i : Nat => i ≤ n.length ∧ i ≤ 20 ∧ (n.take i).all fewRdn = true) (fun i => n.length - i) (fun i => ⟨[(0, .d (nameD n)), (3, iv (valsN (n.take i))), (4, iv i)], [], []⟩) 0 ⟨by omega, by omega, rfl⟩ (by ((repeat' (first | exact trivial | exact leW_refl _ | refine And.intro ?_ ?_)))) ?_
  rintro i ⟨hi, hi10, ha⟩
  have hv := valsN_le ha
  rw [List.length_take] at hv
  by_cases hik : i < n.length ∧ i < 20
  · obtain ⟨hik, hi9⟩ := hik
    obtain ⟨r, hg⟩ : ∃ p, n[i]? = some p := ⟨_, List.getElem?_eq_getElem hik⟩
    have hF := rFewRdn_any r (h.2 r (List.mem_of_getElem? hg))
    cases hf : fewRdn r
    · rw [hf] at hF
      rw [show fewName n = false by unfold fewName; rw [all_cut fewRdn hg (m := 20) hi9 hf]; rfl]
      (repeat' ((conv => whnf); first | refine NBr.yes ?_ | refine NIdx.tab (fun _ => rfl) hg ?_ | refine NCall.eq (hF) (by first | rfl | (simp only [AV.gives, AV.give, un_rdnD]; first | done | rfl)) ?_ | (refine NBr.dec (fun hc hcP => ?_) (fun hc hcP => ?_) <;> try (exfalso; omega)))); (all_goals (conv => whnf))
      all_goals (refine NEnd.eq ?_; (repeat' (first | exact leW_refl _ | refine And.intro ?_ ?_ | exact rfl)))
    · rw [hf] at hF
      obtain ⟨q1, q2, q3⟩ := fewRdn_facts hf
      (repeat' ((conv => whnf); first | refine NBr.yes ?_ | refine NBr.no ?_ | refine NIdx.tab (fun _ => rfl) hg ?_ | refine NCall.eq (hF) (by first | rfl | (simp only [AV.gives, AV.give, un_rdnD]; first | done | rfl)) ?_ | (refine NBr.dec (fun hc hcP => ?_) (fun hc hcP => ?_) <;> try (exfalso; omega)))); (all_goals (conv => whnf))
      refine NLoop.go (fun k : Nat => k ≤ r.length) (fun k => r.length - k) (fun k => ⟨[(0, .d (nameD n)), (3, iv (valsN (n.take i) + vals (r.take k) : Nat)), (4, iv i), (5, iv k)], [], []⟩) 0 (by omega) (by ((repeat' (first | exact trivial | exact leW_refl _ | refine And.intro ?_ ?_)))) ?_
      intro k hk
      have hw := vals_le (all_take q2 k)
      rw [List.length_take] at hw
      by_cases hkl : k < r.length
      · obtain ⟨a, hga⟩ : ∃ p, r[k]? = some p := ⟨_, List.getElem?_eq_getElem hkl⟩
        have hle := fewAt_le (List.all_eq_true.1 q2 a (List.mem_of_getElem? hga))
        (repeat' ((conv => whnf); first | refine NIdx.tab (fun _ => rfl) hg ?_ | refine NIdx.tab (fun _ => rfl) hga ?_ | refine NInt.as (((valsN (n.take i) + (vals (r.take k) + a.val.length) : Nat) : Int) ) ( (by rw [IntWalk.i64_in _ (by omega)]; omega)) ?_ | (with_reducible refine NInt.i64 ?_) | (refine NBr.dec (fun hc hcP => ?_) (fun hc hcP => ?_) <;> try (exfalso; omega)))); (all_goals (conv => whnf))
        refine ⟨k + 1, by omega, by omega, ?_⟩
        rw [vals_snoc hga]
        ((repeat' (first | exact trivial | exact leW_refl _ | refine And.intro ?_ ?_)))
      · obtain rfl : k = r.length := by omega
        rw [List.take_length] at hw ⊢
        (repeat' ((conv => whnf); first | refine NIdx.tab (fun _ => rfl) hg ?_ | (with_reducible refine NInt.i64 ?_) | (refine NBr.dec (fun hc hcP => ?_) (fun hc hcP => ?_) <;> try (exfalso; omega)))); (all_goals (conv => whnf))
        refine ⟨i + 1, ⟨by omega, by omega, by rw [all_snoc fewRdn hg, ha, hf]; rfl⟩, by omega, ?_⟩
        rw [valsN_snoc hg]
        ((repeat' (first | exact trivial | exact leW_refl _ | refine And.intro ?_ ?_)))
  · have hR : fewName n = (decide (n.length ≤ 10) && decide (valsN (n.take i) ≤ 2000)) := by unfold fewName; rw [← take_cut hi hi10 hik, ha]; rfl
    rw [hR]
    generalize valsN (n.take i) = s at hv ⊢
    (repeat' ((conv => whnf); first | refine NBr.yes ?_ | refine NBr.no ?_ | (refine NBr.dec (fun hc hcP => ?_) (fun hc hcP => ?_) <;> try (exfalso; omega)))); (all_goals (conv => whnf))
    all_goals (refine NEnd.eq ?_; (repeat' (first | refine And.intro ?_ ?_ | exact rfl)); (all_goals (conv => whnf)))
    all_goals (apply Bool.eq_iff_iff.2; simp only [Bool.and_eq_true, decide_eq_true_eq, Bool.false_eq_true, false_iff] <;> omega)
def fewGn (g : Gn) : Bool := decide (g.oid.length ≤ 200) && decide (g.tx.length ≤ 500) && decide (g.by'.length ≤ 500) && fewName g.nm && decide (g.av.length ≤ 200) && decide (g.pv.length ≤ 200)
set_option maxRecDepth 100000 in
set_option maxHeartbeats 8000000 in
theorem rFewGn_any (g : Gn) (h : g.ok) : ACalls Tryz.prog 45 [gnA g] (fun x => x = bv (fewGn g)) := by
  obtain ⟨h1, h2, h3, h4, h5, h6⟩ := h
  have hN := rFewName_any g.nm h4
  unfold big at h1 h2 h3 h5 h6
  unfold fewGn
  clear h4
  cases hf : fewName g.nm
  all_goals
    rw [hf] at hN
    refine acalls_vc 38 _ tabOk mixed Tryz.func45 rfl (by kernel_rfl) rfl rfl rfl rfl fun W0 fp0 z0 => ?_
    (repeat' ((conv => whnf); first | refine NBr.yes ?_ | refine NBr.no ?_ | refine NCall.eq (hN) (by first | rfl | (simp only [AV.gives, AV.give, un_nameD]; first | done | rfl)) ?_ | (refine NBr.dec (fun hc hcP => ?_) (fun hc hcP => ?_) <;> try (exfalso; omega)))); (all_goals (conv => whnf))
    all_goals (refine NEnd.eq ?_; (repeat' (first | refine And.intro ?_ ?_ | exact rfl)); (all_goals (conv => whnf)))
    all_goals (apply Bool.eq_iff_iff.2; simp only [Bool.and_eq_true, decide_eq_true_eq, Bool.false_eq_true, false_iff, and_true, and_false, false_and] <;> omega)
def weight (g : Gn) : Nat := g.tx.length + g.by'.length + 10 * g.nm.length
def fewList (l : List Gn) : Bool := (l.take 10).all fewGn && (decide (l.length ≤ 8) && decide (((l.take 10).map weight).sum ≤ 1000))
theorem fewGn_facts {g : Gn} (h : fewGn g = true) : g.oid.length ≤ 200 ∧ g.tx.length ≤ 500 ∧ g.by'.length ≤ 500 ∧ fewName g.nm = true ∧ g.av.length ≤ 200 ∧ g.pv.length ≤ 200 := by
  unfold fewGn at h
  simp only [Bool.and_eq_true, decide_eq_true_eq] at h
  obtain ⟨⟨⟨⟨⟨h1, h2⟩, h3⟩, h4⟩, h5⟩, h6⟩ := h
  exact ⟨h1, h2, h3, h4, h5, h6⟩
theorem fewName_facts {n : List (List Att)} (h : fewName n = true) : n.length ≤ 10 ∧ n.all fewRdn = true ∧ valsN n ≤ 2000 := by
  unfold fewName at h
  simp only [Bool.and_eq_true, decide_eq_true_eq] at h
  obtain ⟨h1, h2, h3⟩ := h
  rw [List.take_of_length_le (by omega)] at h1 h3
  exact ⟨h2, h1, h3⟩
theorem weight_le {g : Gn} (h : fewGn g = true) : weight g ≤ 1100 := by
  obtain ⟨h1, h2, h3, h4, h5, h6⟩ := fewGn_facts h
  have := (fewName_facts h4).1
  unfold weight; omega
theorem fewList_facts {l : List Gn} (h : fewList l = true) : l.length ≤ 8 ∧ l.all fewGn = true ∧ (l.map weight).sum ≤ 1000 := by
  unfold fewList at h
  simp only [Bool.and_eq_true, decide_eq_true_eq] at h
  obtain ⟨h1, h2, h3⟩ := h
  rw [List.take_of_length_le (by omega)] at h1 h3
  exact ⟨h2, h1, h3⟩
set_option maxRecDepth 100000 in
set_option maxHeartbeats 8000000 in
theorem rFewList_any (l : List Gn) (h : l.length ≤ big ∧ ∀ g ∈ l, g.ok) : ACalls Tryz.prog 47 [.d (gnsD l)] (fun x => x = bv (fewList l)) := by
  have hl := h.1
  unfold big at hl
  refine acalls_vc 51 _ tabOk mixed Tryz.func47 rfl (by kernel_rfl) rfl rfl rfl rfl fun W0 fp0 z0 => ?_
  (all_goals (conv => whnf))
  refine NLoop.go (fun i : Nat => i ≤ l.length ∧ i ≤ 10 ∧ (l.take i).all fewGn = true) (fun i => l.length - i) (fun i => ⟨[(0, .d (gnsD l)), (3, iv (((l.take i).map weight).sum : Nat)), (4, iv i)], [], []⟩) 0 ⟨by omega, by omega, rfl⟩ (by ((repeat' (first | exact trivial | exact leW_refl _ | refine And.intro ?_ ?_)))) ?_
  rintro i ⟨hi, hi10, ha⟩
  have hv := sum_le weight 1100 (l.take i) fun x hx => weight_le (List.all_eq_true.1 ha x hx)
  rw [List.length_take] at hv
  by_cases hik : i < l.length ∧ i < 10
  · obtain ⟨hik, hi9⟩ := hik
    obtain ⟨g, hg⟩ : ∃ p, l[i]? = some p := ⟨_, List.getElem?_eq_getElem hik⟩
    have hF := rFewGn_any g (h.2 g (List.mem_of_getElem? hg))
    cases hf : fewGn g
    · rw [hf] at hF
      rw [show fewList l = false by unfold fewList; rw [all_cut fewGn hg (m := 10) hi9 hf]; rfl]
      (repeat' ((conv => whnf); first | refine NBr.yes ?_ | refine NIdx.tab (fun _ => rfl) hg ?_ | refine NCall.eq (hF) (by first | rfl | (simp only [AV.gives, AV.give, D.un, un_bytesD, un_nameD]; first | done | rfl)) ?_ | (refine NBr.dec (fun hc hcP => ?_) (fun hc hcP => ?_) <;> try (exfalso; omega)))); (all_goals (conv => whnf))
      all_goals (refine NEnd.eq ?_; (repeat' (first | exact leW_refl _ | refine And.intro ?_ ?_ | exact rfl)))
    · rw [hf] at hF
      obtain ⟨q1, q2, q3, q4, q5, q6⟩ := fewGn_facts hf
      have q7 := (fewName_facts q4).1
      (repeat' ((conv => whnf); first | refine NBr.yes ?_ | refine NBr.no ?_ | refine NIdx.tab (fun _ => rfl) hg ?_ | refine NCall.eq (hF) (by first | rfl | (simp only [AV.gives, AV.give, D.un, un_bytesD, un_nameD]; first | done | rfl)) ?_ | (with_reducible refine NInt.i64 ?_) | refine NFact.go ⟨by decide +kernel, by kernel_rfl⟩ ?_ | (refine NBr.dec (fun hc hcP => ?_) (fun hc hcP => ?_) <;> try (exfalso; omega)))); (all_goals (conv => whnf))
      refine ⟨i + 1, ⟨by omega, by omega, by rw [all_snoc fewGn hg, ha, hf]; rfl⟩, by omega, ?_⟩
      rw [sum_snoc weight hg, show ((((l.take i).map weight).sum + weight g : Nat) : Int) = ((l.take i).map weight).sum + g.tx.length + g.by'.length + 10 * g.nm.length by unfold weight; omega]
      ((repeat' (first | exact trivial | exact leW_refl _ | refine And.intro ?_ ?_)))
  · have hR : fewList l = (decide (l.length ≤ 8) && decide (((l.take i).map weight).sum ≤ 1000)) := by unfold fewList; rw [← take_cut hi hi10 hik, ha]; rfl
    rw [hR]
    generalize ((l.take i).map weight).sum = s at hv ⊢
    (repeat' ((conv => whnf); first | refine NBr.yes ?_ | refine NBr.no ?_ | (refine NBr.dec (fun hc hcP => ?_) (fun hc hcP => ?_) <;> try (exfalso; omega)))); (all_goals (conv => whnf))
    all_goals (refine NEnd.eq ?_; (repeat' (first | refine And.intro ?_ ?_ | exact rfl)); (all_goals (conv => whnf)))
    all_goals (apply Bool.eq_iff_iff.2; simp only [Bool.and_eq_true, decide_eq_true_eq, Bool.false_eq_true, false_iff] <;> omega)
set_option maxRecDepth 100000 in
set_option maxHeartbeats 8000000 in
theorem rFewSub_any (P E : List Gn) (hP : P.length ≤ big ∧ ∀ g ∈ P, g.ok) (hE : E.length ≤ big ∧ ∀ g ∈ E, g.ok) : ACalls Tryz.prog 24 [.agg [.d (gnsD P), .d (gnsD E)]] (fun x => x = bv (fewList P && fewList E)) := by
  have h1 := rFewList_any P hP
  have h2 := rFewList_any E hE
  cases e1 : fewList P
  all_goals
    rw [e1] at h1
    refine acalls_vc 11 _ tabOk mixed Tryz.func24 rfl (by kernel_rfl) rfl rfl rfl rfl fun W0 fp0 z0 => ?_
    (repeat' ((conv => whnf); first | refine NBr.yes ?_ | refine NBr.no ?_ | refine NCall.eq (h1) (by first | rfl | (simp only [AV.gives, AV.give, un_gnsD]; first | done | rfl)) ?_ | refine NCall.eq (h2) (by first | rfl | (simp only [AV.gives, AV.give, un_gnsD]; first | done | rfl)) ?_)); (all_goals (conv => whnf))
    all_goals (refine NEnd.eq ?_; (repeat' (first | exact leW_refl _ | refine And.intro ?_ ?_ | exact rfl)))
end Go.Proofs.YtblabcopgeobgaaGreatDoor

/- The law SubtreePermits, walked. -/
namespace Go.Proofs.YtblabcopgeobgaaGreatDoor
open Go.RowKit

theorem lok_of {l : List Gn} (h : fewList l = true) : LOk l := by
  obtain ⟨h1, h2, -⟩ := fewList_facts h
  exact ⟨by omega, fun g hg => by have := (fewGn_facts (List.all_eq_true.1 h2 g hg)).2.1; omega⟩
end Go.Proofs.YtblabcopgeobgaaGreatDoor

/- What comes in: arguments of any type of ints, bools, strings, slices and structs, told al data. No condition. -/
namespace Go.Proofs.YtblabcopgeobgaaGreatDoor
open Go.ChangeShapes Go.WideShapes Go.ChangeAt Go.RowKit Go.Joins

def fpAll (w : World) (b _o : Nat) : Prop := b < w.heap.size
structure RdsW (w : World) (ds : List D) (cs : List Value) : Prop where
  len : ds.length = cs.length
  one : ∀ u ∈ cs, u.oneCell' = true
  rd : ∀ (i : Nat) d u, ds[i]? = some d → cs[i]? = some u → Rd w.heap.size (fpAll w) w d u
theorem RdsW.nil (w : World) : RdsW w [] [] := ⟨rfl, fun _ h => (by cases h), fun i _ _ h => (by simp at h)⟩
theorem RdsW.single {w : World} {d : D} {u : Value} (h1 : u.oneCell' = true) (h : Rd w.heap.size (fpAll w) w d u) : RdsW w [d] [u] :=
  ⟨rfl, fun v hv => by simp at hv; subst hv; exact h1, fun i d' u' hd hu => by
    cases i with
    | zero => simp at hd hu; subst hd hu; exact h
    | succ i => simp at hd⟩
theorem RdsW.append {w : World} {ds es : List D} {cs vs : List Value} (h : RdsW w ds cs) (h' : RdsW w es vs) : RdsW w (ds ++ es) (cs ++ vs) := by
  refine ⟨by simp [h.len, h'.len], fun u hu => ?_, fun i d u hd hu => ?_⟩
  · rcases List.mem_append.1 hu with hu | hu
    · exact h.one u hu
    · exact h'.one u hu
  · rcases Nat.lt_or_ge i ds.length with hi | hi
    · rw [List.getElem?_append_left hi] at hd
      rw [List.getElem?_append_left (by rw [← h.len]; exact hi)] at hu
      exact h.rd i d u hd hu
    · rw [List.getElem?_append_right hi] at hd
      rw [List.getElem?_append_right (by rw [← h.len]; exact hi), ← h.len] at hu
      exact h'.rd _ d u hd hu
/-- What cells of type t hold, if they can be read: some a, told by C. -/
def Op {α : Type} (t : TypeId) (n : Nat) (C : α → List D) (ok : α → Prop) : Prop :=
  ∀ {H : Type} (enc : TypeId × Value → H) (w : World) (fuel : Nat) (cs : List Value) (x : DataW H × List MemPlace), DataW.trod enc Tryz.prog w 0 (fun _ => true) true fuel t cs = some x → ∃ a, ok a ∧ cs.length = n ∧ RdsW w (C a) cs
theorem op_int {t : TypeId} {k : IntKind} (ht : Tryz.prog.underlying t = some (.int k)) : Op t 1 (fun n : Int => [.v (.int k n)]) (fun n => (Lit.int k n).wf = true) := by
  intro H enc w fuel cs x h
  obtain ⟨n, rfl, rfl, hw⟩ := DataW.trod_int ht h
  exact ⟨n, hw, rfl, .single rfl (.v _)⟩
theorem op_str {t : TypeId} (ht : Tryz.prog.underlying t = some .string) : Op t 1 (fun l : List UInt8 => [sD l]) (fun l => l.length ≤ big) := by
  intro H enc w fuel cs x h
  obtain ⟨s, rfl, rfl, hs⟩ := DataW.trod_string ht h
  exact ⟨s.data.toList, le_of_size hs, rfl, .single rfl (.v _)⟩
/-- A row of elements. -/
theorem rows_get {w : World} {n : Nat} {ds : List (List D)} {cs : List (List Value)} (hl : ds.length = cs.length) (hn : ∀ c ∈ cs, c.length = n) (h : ∀ (i : Nat) d c, ds[i]? = some d → cs[i]? = some c → RdsW w d c) :
    RdsW w ds.flatten cs.flatten ∧ cs.flatten.length = cs.length * n ∧ ∀ i, i < cs.flatten.length → ∃ c, cs[i / n]? = some c ∧ cs.flatten[i]? = c[i % n]? ∧ i % n < n ∧ i / n < cs.length := by
  induction cs generalizing ds with
  | nil =>
    have : ds = [] := List.length_eq_zero_iff.1 (by simpa using hl)
    subst this
    exact ⟨.nil w, by simp, fun i hi => by simp at hi⟩
  | cons c r ih =>
    match ds, hl with
    | d :: ds, hl =>
      obtain ⟨h1, h2, h3⟩ := ih (ds := ds) (by simpa using hl) (fun c hc => hn c (by simp [hc])) (fun i d c hd hc => h (i + 1) d c (by simpa using hd) (by simpa using hc))
      have hc := hn c (by simp)
      refine ⟨?_, ?_, fun i hi => ?_⟩
      · rw [List.flatten_cons, List.flatten_cons]
        exact (h 0 d c rfl rfl).append h1
      · simp only [List.flatten_cons, List.length_append, List.length_cons, h2, hc, Nat.add_mul, Nat.one_mul]; omega
      · rw [List.flatten_cons, List.length_append] at hi
        rcases Nat.lt_or_ge i n with hin | hin
        · refine ⟨c, by rw [Nat.div_eq_of_lt hin]; rfl, ?_, Nat.mod_lt _ (by omega), by rw [Nat.div_eq_of_lt hin]; simp⟩
          rw [List.flatten_cons, List.getElem?_append_left (by omega), Nat.mod_eq_of_lt hin]
        · have hn0 : 0 < n := by
            rcases Nat.eq_zero_or_pos n with h0 | h0
            · subst h0
              rw [h2, Nat.mul_zero] at hi; omega
            · exact h0
          obtain ⟨c', k1, k2, k3, k4⟩ := h3 (i - n) (by omega)
          have e : i = (i - n) + n := by omega
          have e1 : i / n = (i - n) / n + 1 := by rw [e, Nat.add_div_right _ hn0, Nat.add_sub_cancel]
          have e2 : i % n = (i - n) % n := by rw [e, Nat.add_mod_right, Nat.add_sub_cancel]
          refine ⟨c', by rw [e1]; exact k1, ?_, by rw [e2]; exact k3, by rw [e1, List.length_cons]; omega⟩
          rw [List.flatten_cons, List.getElem?_append_right (by omega), hc, e2]; exact k2
theorem pick_all {β γ : Type} {n : Nat} {p : Nat → β → γ → Prop} (h : ∀ i, i < n → ∃ a c, p i a c) : ∃ (al : List β) (cs : List γ), al.length = n ∧ cs.length = n ∧ ∀ (i : Nat) a c, al[i]? = some a → cs[i]? = some c → p i a c := by
  induction n with
  | zero => exact ⟨[], [], rfl, rfl, fun i a c h => by cases h⟩
  | succ n ih =>
    obtain ⟨al, cs, h1, h2, h3⟩ := ih fun i hi => h i (by omega)
    obtain ⟨a, c, hp⟩ := h n (by omega)
    refine ⟨al ++ [a], cs ++ [c], by simp [h1], by simp [h2], fun i a' c' ha hc => ?_⟩
    rcases Nat.lt_or_ge i n with hi | hi
    · rw [List.getElem?_append_left (by omega)] at ha hc
      exact h3 i a' c' ha hc
    · rw [List.getElem?_append_right (by omega)] at ha hc
      rw [h1] at ha; rw [h2] at hc
      have : i = n := by
        rcases Nat.eq_or_lt_of_le hi with e | e
        · exact e.symm
        · rw [List.getElem?_eq_none (by simp; omega)] at ha; cases ha
      subst this
      simp at ha hc; subst ha hc; exact hp
theorem op_slice {α : Type} {t e : TypeId} {n : Nat} {C : α → List D} {ok : α → Prop} (ht : Tryz.prog.underlying t = some (.slice e)) (hc : Tryz.prog.cellsOf e = n) (he : Op e n C ok) :
    Op t 1 (fun l : List α => [tabD false n C l]) (fun l => l.length ≤ big ∧ ∀ a ∈ l, ok a) := by
  intro H enc w fuel cs x h
  rcases DataW.trod_slice ht h with ⟨rfl, -⟩ | ⟨a, len, cap, elems, rest, m, rfl, rfl, -, -, hl, hm, hlen, hel, -, -⟩
  · refine ⟨[], ⟨by simp [big], fun a h => by cases h⟩, rfl, .single rfl ?_⟩
    exact .sl [] (Nat.le_refl _) (Nat.zero_le _) (by simp) rfl (fun _ => rfl) (fun u hu => by cases hu) (fun i d u hd => by simp at hd) (fun i u hu => by cases hu)
  · rw [hc] at hel
    have hp : ∀ i, i < len → ∃ (a' : α) (c : List Value), (w.cells? 0 (a.add (i * n)) n = some c ∧ ok a' ∧ c.length = n ∧ RdsW w (C a') c) := by
      intro i hi
      have h1 := hel i hi
      rw [List.getElem?_eq_getElem (by omega)] at h1
      obtain ⟨c, h2, h3⟩ := Option.bind_eq_some_iff.1 h1
      obtain ⟨a', k1, k2, k3⟩ := he enc w m c _ h3
      exact ⟨a', c, h2, k1, k2, k3⟩
    obtain ⟨al, css, l1, l2, l3⟩ := pick_all hp
    have hcn : ∀ c ∈ css, c.length = n := fun c hc => by
      obtain ⟨i, hi⟩ := List.mem_iff_getElem?.1 hc
      have := (List.getElem?_eq_some_iff.1 hi).1
      exact (l3 i _ c (List.getElem?_eq_getElem (by omega)) hi).2.2.1
    obtain ⟨r1, r2, r3⟩ := rows_get (w := w) (n := n) (ds := al.map C) (cs := css) (by simp [l1, l2]) hcn (fun i d c hd hc => by
      rw [List.getElem?_map, Option.map_eq_some_iff] at hd
      obtain ⟨a', ha, rfl⟩ := hd
      exact (l3 i a' c ha hc).2.2.2)
    refine ⟨al, ⟨by rw [l1]; exact Nat.le_trans hl hm, fun a' ha => ?_⟩, rfl, .single rfl ?_⟩
    · obtain ⟨i, hi⟩ := List.mem_iff_getElem?.1 ha
      have := (List.getElem?_eq_some_iff.1 hi).1
      exact (l3 i a' _ hi (List.getElem?_eq_getElem (by omega))).2.1
    · have hcell : ∀ i u, css.flatten[i]? = some u → w.cell? ((a.add (i / n * n)).add (i % n)) = some u ∧ i / n * n + i % n = i := fun i u hu => by
        have hi := (List.getElem?_eq_some_iff.1 hu).1
        obtain ⟨c, k1, k2, k3, k4⟩ := r3 i hi
        have hq := (l3 (i / n) _ c (List.getElem?_eq_getElem (by omega)) k1).1
        have := (World.cells?_some hq).2.2 (i % n) k3
        rw [k2] at hu
        rw [hu] at this
        exact ⟨this, by rw [Nat.mul_comm]; exact Nat.div_add_mod i n⟩
      have r2' : (al.flatMap C).length = al.length * n := by
        rw [List.flatMap_def, r1.len, r2, l1, l2]
      rw [← l1]
      refine .sl css.flatten (by rw [l1]; exact hl) hm r2' (by rw [List.flatMap_def]; exact r1.len.symm) (fun h => by cases h) r1.one (fun i d u hd hu => ?_) (fun i u hu => ?_)
      · rw [List.flatMap_def] at hd
        exact r1.rd i d u hd hu
      · obtain ⟨ab, ao, spot⟩ := a
        have hs : spot = none := by
          have hi := (List.getElem?_eq_some_iff.1 hu).1
          have h0 := (hcell 0 _ (List.getElem?_eq_getElem (by omega))).1
          rw [Nat.zero_div, Nat.zero_mod, Nat.zero_mul] at h0
          simpa [Addr.add] using World.cell?_spot h0
        subst hs
        obtain ⟨hq, he⟩ := hcell i u hu
        rw [Addr.add_lit, Addr.add_lit, Nat.add_assoc, he] at hq
        exact ⟨ab, ao, rfl, World.block_lt_of_cell? w _ hq, fun h => (by cases h), hq⟩
theorem seg_nil {w : World} {cs : List Value} {o : Nat} (h : cs.length = o) : RdsW w [] (cs.drop o) := by
  rw [List.drop_of_length_le (by omega)]; exact .nil w
theorem seg_cons {w : World} {cs : List Value} {o n : Nat} {ds es : List D} (h : RdsW w ds ((cs.drop o).take n)) (h' : RdsW w es (cs.drop (o + n))) : RdsW w (ds ++ es) (cs.drop o) := by
  have : cs.drop o = (cs.drop o).take n ++ cs.drop (o + n) := by rw [← List.drop_drop, List.take_append_drop]
  rw [this]; exact h.append h'
/-- A field. -/
theorem field_at {H : Type} {enc : TypeId × Value → H} {w : World} {fs : Array Field} {m : Nat} {cs : List Value} {xs : List (DataW H × List MemPlace)} (hl : xs.length = fs.size) (h : ∀ (i : Nat) (f : Field), fs[i]? = some f → DataW.trod enc Tryz.prog w 0 (fun _ => true) true m f.type ((cs.drop f.offset).take (Tryz.prog.cellsOf f.type)) = xs[i]?)
    {α : Type} {C : α → List D} {ok : α → Prop} {t : TypeId} {o n : Nat} (i : Nat) (hf : (fs[i]?).map (fun f => (f.type, f.offset)) = some (t, o)) (hc : Tryz.prog.cellsOf t = n) (hop : Op t n C ok) : ∃ a, ok a ∧ RdsW w (C a) ((cs.drop o).take n) := by
  obtain ⟨f, hf1, hf2⟩ := Option.map_eq_some_iff.1 hf
  simp only [Prod.mk.injEq] at hf2
  obtain ⟨rfl, rfl⟩ := hf2
  have h1 := h i f hf1
  have hi : i < xs.length := by rw [hl]; exact (Array.getElem?_eq_some_iff.1 hf1).1
  rw [List.getElem?_eq_getElem hi, hc] at h1
  obtain ⟨a, k1, -, k3⟩ := hop enc w m _ _ h1
  exact ⟨a, k1, k3⟩
theorem bytesT (l : List UInt8) : tabD false 1 (fun y : UInt8 => [D.v (.int .u8 y.toNat)]) l = bytesD false l := by
  have : l.flatMap (fun y : UInt8 => [D.v (.int .u8 y.toNat)]) = bytesL l := by
    unfold bytesL
    induction l with
    | nil => rfl
    | cons x r ih => simp only [List.flatMap_cons, List.map_cons, ih]; rfl
  unfold bytesD
  rw [← this]
end Go.Proofs.YtblabcopgeobgaaGreatDoor

/- Arguments: texts, attributes, names, general names, name constraints. No condition. -/
namespace Go.Proofs.YtblabcopgeobgaaGreatDoor
open Go.ChangeShapes Go.WideShapes Go.ChangeAt Go.RowKit Go.Joins

theorem op_u8 : Op 5 1 (fun y : UInt8 => [.v (.int .u8 y.toNat)]) (fun _ => True) := by
  intro H enc w fuel cs x h
  obtain ⟨n, hw, hl, hr⟩ := op_int (k := .u8) Tryz.underlying5 enc w fuel cs x h
  have hn : 0 ≤ n ∧ n ≤ 255 := by
    simp only [Lit.wf, Bool.and_eq_true, decide_eq_true_eq] at hw
    exact hw
  refine ⟨UInt8.ofNat n.toNat, trivial, hl, ?_⟩
  have : ((UInt8.ofNat n.toNat).toNat : Int) = n := by
    rw [UInt8.toNat_ofNat']; omega
  show RdsW w [.v (.int .u8 (UInt8.ofNat n.toNat).toNat)] cs
  rw [this]; exact hr
theorem op_bytes : Op 22 1 (fun l : List UInt8 => [bytesD false l]) (fun l => l.length ≤ big) := by
  intro H enc w fuel cs x h
  obtain ⟨l, ⟨h1, -⟩, h2, h3⟩ := op_slice Tryz.underlying22 (by kernel_rfl) op_u8 enc w fuel cs x h
  exact ⟨l, h1, h2, by show RdsW w [bytesD false l] cs; rw [← bytesT]; exact h3⟩
theorem op_string : Op 9 1 (fun l : List UInt8 => [sD l]) (fun l => l.length ≤ big) := op_str Tryz.underlying9
theorem op_num : Op 3 1 (fun n : Int => [iD n]) (fun n => (Lit.int .i64 n).wf = true) := op_int Tryz.underlying3
theorem drop0 {w : World} {ds : List D} {cs : List Value} (h : RdsW w ds (cs.drop 0)) : RdsW w ds cs := by rwa [List.drop_zero] at h
theorem op_att : Op 155 2 atC Att.ok := by
  intro H enc w fuel cs x h
  obtain ⟨xs, m, -, -, hl, hn, hf⟩ := DataW.trod_struct Tryz.underlying155 h
  have hl' : cs.length = 2 := hl.trans (by kernel_rfl)
  obtain ⟨o, k0, r0⟩ := field_at hn hf (o := 0) 0 (by kernel_rfl) (by kernel_rfl) op_string
  obtain ⟨v, k1, r1⟩ := field_at hn hf (o := 1) 1 (by kernel_rfl) (by kernel_rfl) op_bytes
  exact ⟨⟨o, v⟩, ⟨k0, k1⟩, hl', drop0 (seg_cons r0 (seg_cons r1 (seg_nil hl')))⟩
theorem op_rdn : Op 153 1 rdnC (fun r => r.length ≤ big ∧ ∀ a ∈ r, a.ok) := op_slice Tryz.underlying153 (by kernel_rfl) op_att
theorem op_name : Op 52 1 (fun n => [nameD n]) (fun n => n.length ≤ big ∧ ∀ r ∈ n, r.length ≤ big ∧ ∀ a ∈ r, a.ok) := op_slice Tryz.underlying52 (by kernel_rfl) op_rdn
theorem op_text : Op 54 2 (fun p : Int × List UInt8 => [iD p.1, sD p.2]) (fun p => (Lit.int .i64 p.1).wf = true ∧ p.2.length ≤ big) := by
  intro H enc w fuel cs x h
  obtain ⟨xs, m, -, -, hl, hn, hf⟩ := DataW.trod_struct Tryz.underlying54 h
  have hl' : cs.length = 2 := hl.trans (by kernel_rfl)
  obtain ⟨o, k0, r0⟩ := field_at hn hf (o := 0) 0 (by kernel_rfl) (by kernel_rfl) op_num
  obtain ⟨v, k1, r1⟩ := field_at hn hf (o := 1) 1 (by kernel_rfl) (by kernel_rfl) op_string
  exact ⟨⟨o, v⟩, ⟨k0, k1⟩, hl', drop0 (seg_cons r0 (seg_cons r1 (seg_nil hl')))⟩
structure Gn.wf (g : Gn) : Prop where
  ok : g.ok
  k : (Lit.int .i64 g.k).wf = true
  ak : (Lit.int .i64 g.ak).wf = true
  pk : (Lit.int .i64 g.pk).wf = true
theorem op_gn : Op 56 9 gnC Gn.wf := by
  intro H enc w fuel cs x h
  obtain ⟨xs, m, -, -, hl, hn, hf⟩ := DataW.trod_struct Tryz.underlying56 h
  have hl' : cs.length = 9 := hl.trans (by kernel_rfl)
  obtain ⟨k, k0, r0⟩ := field_at hn hf (o := 0) 0 (by kernel_rfl) (by kernel_rfl) op_num
  obtain ⟨o, k1, r1⟩ := field_at hn hf (o := 1) 1 (by kernel_rfl) (by kernel_rfl) op_string
  obtain ⟨t, k2, r2⟩ := field_at hn hf (o := 2) 2 (by kernel_rfl) (by kernel_rfl) op_string
  obtain ⟨b, k3, r3⟩ := field_at hn hf (o := 3) 3 (by kernel_rfl) (by kernel_rfl) op_bytes
  obtain ⟨n, k4, r4⟩ := field_at hn hf (o := 4) 4 (by kernel_rfl) (by kernel_rfl) op_name
  obtain ⟨a, k5, r5⟩ := field_at hn hf (o := 5) 5 (by kernel_rfl) (by kernel_rfl) op_text
  obtain ⟨p, k6, r6⟩ := field_at hn hf (o := 7) 6 (by kernel_rfl) (by kernel_rfl) op_text
  exact ⟨⟨k, o, t, b, n, a.1, a.2, p.1, p.2⟩, ⟨⟨k1, k2, k3, k4, k5.2, k6.2⟩, k0, k5.1, k6.1⟩, hl', drop0 (seg_cons r0 (seg_cons r1 (seg_cons r2 (seg_cons r3 (seg_cons r4 (seg_cons r5 (seg_cons r6 (seg_nil hl'))))))))⟩
theorem op_gns : Op 42 1 (fun l => [gnsD l]) (fun l => l.length ≤ big ∧ ∀ g ∈ l, g.wf) := op_slice Tryz.underlying42 (by kernel_rfl) op_gn
theorem op_sub : Op 44 2 (fun p : List Gn × List Gn => [gnsD p.1, gnsD p.2]) (fun p => (p.1.length ≤ big ∧ ∀ g ∈ p.1, g.wf) ∧ (p.2.length ≤ big ∧ ∀ g ∈ p.2, g.wf)) := by
  intro H enc w fuel cs x h
  obtain ⟨xs, m, -, -, hl, hn, hf⟩ := DataW.trod_struct Tryz.underlying44 h
  have hl' : cs.length = 2 := hl.trans (by kernel_rfl)
  obtain ⟨o, k0, r0⟩ := field_at hn hf (o := 0) 0 (by kernel_rfl) (by kernel_rfl) op_gns
  obtain ⟨v, k1, r1⟩ := field_at hn hf (o := 1) 1 (by kernel_rfl) (by kernel_rfl) op_gns
  exact ⟨⟨o, v⟩, ⟨k0, k1⟩, hl', drop0 (seg_cons r0 (seg_cons r1 (seg_nil hl')))⟩

abbrev ARA (W : World) : AV → Value → Prop := RA W.heap.size (fpAll W) W ⟨fun _ => 0, fun _ _ => False⟩ (fun _ => undef)
set_option maxRecDepth 100000 in
theorem arg_agg {α : Type} {t : TypeId} {n : Nat} {C : α → List D} {ok : α → Prop} (hop : Op t n C ok) {fs : Array Field} (ht : Tryz.prog.underlying t = some (.struct fs)) {H : Type} {enc : TypeId × Value → H} {W : World} {base : Nat} {v : Value} {d : DataW H} {p : List MemPlace}
    (hv : Value.okWide Tryz.prog W .any base t v) (h : DataW.Trod enc Tryz.prog W 0 (fun _ => true) true t v d p) : ∃ a, ok a ∧ ARA W (.agg ((C a).map .d)) v := by
  simp only [Value.okWide, ht] at hv
  obtain ⟨cs, rfl, -⟩ := hv
  obtain ⟨fuel, hf⟩ := h
  obtain ⟨a, k1, -, k3⟩ := hop enc W fuel _ _ hf
  refine ⟨a, k1, ?_⟩
  have hr : RdsW W (C a) cs.toList := k3
  have := RA.agg (B := W.heap.size) (fp := fpAll W) (w := W) (bm := ⟨fun _ => 0, fun _ _ => False⟩) (gt := fun _ => undef) (cs := (C a).map .d) cs.toList (by rw [List.length_map]; exact hr.len.symm) (fun i u v hu hv => by
    rw [List.getElem?_map, Option.map_eq_some_iff] at hu
    obtain ⟨d, hd, rfl⟩ := hu
    exact .d (hr.rd i d v hd hv))
  simpa using this
set_option maxRecDepth 100000 in
theorem arg_one {α : Type} {t : TypeId} {c : α → D} {ok : α → Prop} (hop : Op t 1 (fun a => [c a]) ok) {H : Type} {enc : TypeId × Value → H} {W : World} {v : Value} {d : DataW H} {p : List MemPlace}
    (hv : v.cells.toList = [v]) (h : DataW.Trod enc Tryz.prog W 0 (fun _ => true) true t v d p) : ∃ a, ok a ∧ ARA W (.d (c a)) v := by
  obtain ⟨fuel, hf⟩ := h
  obtain ⟨a, k1, -, k3⟩ := hop enc W fuel _ _ hf
  rw [hv] at k3
  exact ⟨a, k1, .d (k3.rd 0 _ _ rfl rfl)⟩
set_option maxRecDepth 100000 in
theorem laidOut : laidOutB Tryz.prog = true := by kernel_rfl
theorem stay_at {H : Type} {enc : TypeId × Value → H} {t : TypeId} (hrow : t < Tryz.prog.types.size) (hr : Tryz.prog.readableRec t = true) {W W' : World} {v1 : Value} {d1 : DataW H} {p1 : List MemPlace} (h1 : DataW.Trod enc Tryz.prog W 0 (fun _ => true) true t v1 d1 p1) (hb : Below W.heap.size W W') (hlt : ∀ x ∈ p1, x.block < W.heap.size) :
    DataW.Trod enc Tryz.prog W' 0 (fun x => decide (x < W.heap.size)) true t v1 d1 p1 :=
  WideElems.Trod_stays (P := Tryz.prog) laidOut hr hrow h1 (fun x hx => hb.same (hlt x hx)) (fun x hx => by simpa using hlt x hx)
/-- Three arguments. -/
theorem mk3 {H : Type} {enc : TypeId × Value → H} {w : World} {base : Nat} {sp : Nat → Bool} {held : Bool} {t t' t'' : TypeId} {v v' v'' : Value} {d d' d'' : DataW H} {p p' p'' : List MemPlace} (h : DataW.Trod enc Tryz.prog w base sp held t v d p) (h' : DataW.Trod enc Tryz.prog w base sp held t' v' d' p')
    (h'' : DataW.Trod enc Tryz.prog w base sp held t'' v'' d'' p'') : DataW.TrodAll enc Tryz.prog w base sp held [t, t', t''] [v, v', v''] [d, d', d''] (p ++ p' ++ p'') := by
  rw [List.append_assoc]; exact trodAll_mk3 h h' h''
end Go.Proofs.YtblabcopgeobgaaGreatDoor
