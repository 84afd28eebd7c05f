/- MN: the texts FewM LawMM LawMC OpnZ, one behind the other. No condition but what each lemma says. -/
import Derived.Test.YtblabcopgeobgaaGreatDoorMH
import Derived.Test.YtblabcopgeobgaaGreatDoorMK
import Derived.Test.YtblabcopgeobgaaGreatDoorMM
import Derived.Test.YtblabcopgeobgaaGreatDoorMJ
import Derived.Test.YtblabcopgeobgaaGreatDoorMC
import Derived.Test.YtblabcopgeobgaaGreatDoorMG
namespace Go.Proofs.YtblabcopgeobgaaGreatDoor
open Go.RowKit
set_option maxRecDepth 100000
set_option maxHeartbeats 8000000
def hug : Nat := 140737488355328
def lens (l : List (List UInt8)) : Nat := (l.map List.length).sum
def wMu (m : Mu) : Nat := m.oid.length + 10 * m.vs.length + lens (m.vs.take 200)
def fewM (l : List Mu) : Bool := decide (l.length ≤ 6) && decide (((l.take 10).map wMu).sum ≤ 1500)
structure Mu.hz (m : Mu) : Prop where
 o : m.oid.length ≤ hug
 n : m.vs.length ≤ hug
 v : ∀ p ∈ m.vs, p.length ≤ hug
theorem lens_le {l : List (List UInt8)} (h : ∀ p ∈ l, p.length ≤ hug) : lens l ≤ l.length * hug := sum_le _ hug l h
theorem lens_flat : ∀ l : List (List UInt8), lens l = l.flatten.length
 | [] => rfl
 | p :: r => by
   have := lens_flat r
   unfold lens at this ⊢
   rw [List.map_cons, List.sum_cons, List.flatten_cons, List.length_append, this]
theorem wMu_le {m : Mu} (h : m.hz) : wMu m ≤ 211 * hug := by
 have h1 := lens_le (l := m.vs.take 200) fun p hp => h.v p (List.mem_of_mem_take hp)
 have h2 : (m.vs.take 200).length * hug ≤ 200 * hug := Nat.mul_le_mul_right _ (by rw [List.length_take]; omega)
 have := h.o
 have := h.n
 unfold wMu; omega
theorem fewM_facts {l : List Mu} (h : fewM l = true) : l.length ≤ 6 ∧ (l.map wMu).sum ≤ 1500 ∧ ∀ m ∈ l, wMu m = m.oid.length + 10 * m.vs.length + m.vs.flatten.length ∧ m.oid.length + 10 * m.vs.length + m.vs.flatten.length ≤ 1500 := by
 unfold fewM at h
 simp only [Bool.and_eq_true, decide_eq_true_eq] at h
 obtain ⟨h1, h2⟩ := h
 rw [List.take_of_length_le (by omega)] at h2
 refine ⟨h1, h2, fun m hm => ?_⟩
 have hw : wMu m ≤ 1500 := by
  have : ∀ l : List Mu, m ∈ l → wMu m ≤ (l.map wMu).sum := by
   intro l
   induction l with
   | nil => intro h; cases h
   | cons a r ih =>
     intro h
     rw [List.map_cons, List.sum_cons]
     rcases List.mem_cons.1 h with rfl | h
     ·omega
     ·have := ih h; omega
  exact Nat.le_trans (this l hm) h2
 have he : wMu m = m.oid.length + 10 * m.vs.length + m.vs.flatten.length := by
  have : m.vs.length ≤ 200 := by unfold wMu at hw; omega
  unfold wMu
  rw [List.take_of_length_le this, lens_flat]
 exact ⟨he, he ▸ hw⟩
theorem rFewM_any (l : List Mu) (h : l.length ≤ hug ∧ ∀ m ∈ l, m.hz) : ACalls Tryz.prog 29 [.d (musD l)] (fun x => x = bv (fewM l)) := by
 have hl := h.1
 have hh : hug = 140737488355328 := rfl
 refine acalls_vc 64 _ tabOk mixed Tryz.func29 rfl (by kernel_rfl) rfl rfl rfl rfl fun W0 fp0 z0 => ?_
 (all_goals (conv => whnf))
 refine NLoop.go (fun i : Nat => i ≤ l.length ∧ i ≤ 10) (fun i => l.length - i) (fun i => ⟨[(0, .d (musD l)), (3, iv (((l.take i).map wMu).sum : Nat)), (4, iv i)], [], []⟩) 0 ⟨by omega, by omega⟩ (by ((repeat' (first | exact trivial | exact leW_refl _ | refine And.intro ?_ ?_)))) ?_
 rintro i ⟨hi, hi10⟩
 have hv := sum_le wMu (211 * hug) (l.take i) fun x hx => wMu_le (h.2 x (List.mem_of_mem_take hx))
 have hv := Nat.le_trans hv (Nat.mul_le_mul_right (211 * hug) (show (l.take i).length ≤ 10 by rw [List.length_take]; omega))
 by_cases hik : i < l.length ∧ i < 10
 ·obtain ⟨hik, hi9⟩ := hik
  have gi : decide ((i : Int) < l.length) = true := decide_eq_true (by omega)
  have gj : decide ((i : Int) < 10) = true := decide_eq_true (by omega)
  obtain ⟨m, hg⟩ : ∃ p, l[i]? = some p := ⟨_, List.getElem?_eq_getElem hik⟩
  obtain ⟨m1, m2, m3⟩ := h.2 m (List.mem_of_getElem? hg)
  have hss := sum_snoc wMu hg
  generalize ((l.take i).map wMu).sum = s at hv hss
  (repeat' ((conv => whnf); first | refine NBr.yes ?_ | refine NBr.pos (by assumption) ?_ | refine NIdx.tab (fun _ => rfl) hg ?_ | refine NInt.as (((s + (m.oid.length + 10 * m.vs.length) : Nat) : Int) ) ( (by rw [IntWalk.i64_in _ (by omega)]; omega)) ?_ | refine NInt.as (((s + m.oid.length : Nat) : Int) ) ( (by rw [IntWalk.i64_in _ (by omega)]; omega)) ?_ | refine NInt.as (((10 * m.vs.length : Nat) : Int) ) ( (by rw [IntWalk.i64_in _ (by omega)]; omega)) ?_ | refine NFact.go ⟨by decide +kernel, by kernel_rfl⟩ ?_)); (all_goals (conv => whnf))
  refine NLoop.go (fun k : Nat => k ≤ m.vs.length ∧ k ≤ 200) (fun k => m.vs.length - k) (fun k => ⟨[(0, .d (musD l)), (3, iv (s + (m.oid.length + 10 * m.vs.length) + lens (m.vs.take k) : Nat)), (4, iv i), (5, iv k)], [], []⟩) 0 ⟨by omega, by omega⟩ (by ((repeat' (first | exact trivial | exact leW_refl _ | refine And.intro ?_ ?_)))) ?_
  rintro k ⟨hk, hk2⟩
  have hw := lens_le (l := m.vs.take k) fun p hp => m3 p (List.mem_of_mem_take hp)
  have hw := Nat.le_trans hw (Nat.mul_le_mul_right hug (show (m.vs.take k).length ≤ 200 by rw [List.length_take]; omega))
  by_cases hkl : k < m.vs.length ∧ k < 200
  ·obtain ⟨hkl, hk9⟩ := hkl
   have gk : decide ((k : Int) < m.vs.length) = true := decide_eq_true (by omega)
   have gl : decide ((k : Int) < 200) = true := decide_eq_true (by omega)
   obtain ⟨p, hga⟩ : ∃ p, m.vs[k]? = some p := ⟨_, List.getElem?_eq_getElem hkl⟩
   have hle := m3 p (List.mem_of_getElem? hga)
   have hs2 : lens (m.vs.take (k + 1)) = lens (m.vs.take k) + p.length := sum_snoc List.length hga
   generalize lens (m.vs.take k) = u at hw hs2
   (repeat' ((conv => whnf); first | refine NBr.yes ?_ | refine NBr.pos (by assumption) ?_ | refine NIdx.tab (fun _ => rfl) hg ?_ | refine NIdx.tab (fun _ => rfl) hga ?_ | refine NInt.as (((s + (m.oid.length + 10 * m.vs.length) + (u + p.length) : Nat) : Int) ) ( (by rw [IntWalk.i64_in _ (by omega)]; omega)) ?_ | (with_reducible refine NInt.i64 ?_))); (all_goals (conv => whnf))
   refine ⟨k + 1, ⟨by omega, by omega⟩, by omega, ?_⟩
   rw [hs2]
   ((repeat' (first | exact trivial | exact leW_refl _ | refine And.intro ?_ ?_)))
  ·have hcut : m.vs.take k = m.vs.take 200 := take_cut hk hk2 hkl
   have gk : (decide ((k : Int) < m.vs.length) && decide ((k : Int) < 200)) = false := by
    rcases Decidable.not_and_iff_or_not.1 hkl with h | h
    ·rw [show decide ((k : Int) < m.vs.length) = false from decide_eq_false (by omega)]; rfl
    ·rw [show decide ((k : Int) < 200) = false from decide_eq_false (by omega), Bool.and_false]
   have hx : s + (m.oid.length + 10 * m.vs.length) + lens (m.vs.take k) = ((l.take (i + 1)).map wMu).sum := by rw [hss, hcut]; unfold wMu; omega
   rw [hx]
   (repeat' ((conv => whnf); first | refine NBr.yes ?_ | refine NBr.no ?_ | refine NIdx.tab (fun _ => rfl) hg ?_ | (with_reducible refine NInt.i64 ?_) | (refine NBr.dec (fun hc hcP => ?_) (fun hc hcP => ?_) <;> try (exfalso; omega)))); (all_goals (conv => whnf))
   all_goals
    refine ⟨i + 1, ⟨by omega, by omega⟩, by omega, ?_⟩
    ((repeat' (first | exact trivial | exact leW_refl _ | refine And.intro ?_ ?_)))
 ·have hcut : l.take i = l.take 10 := take_cut hi hi10 hik
  have hR : fewM l = (decide (l.length ≤ 6) && decide (((l.take i).map wMu).sum ≤ 1500)) := by unfold fewM; rw [← hcut]
  rw [hR]
  generalize ((l.take i).map wMu).sum = s at hv ⊢
  (repeat' ((conv => whnf); first | refine NBr.yes ?_ | refine NBr.no ?_ | (refine NBr.dec (fun hc hcP => ?_) (fun hc hcP => ?_) <;> try (exfalso; omega)))); (all_goals (conv => whnf))
  all_goals (refine NEnd.eq ?_; (repeat' (first | refine And.intro ?_ ?_ | exact rfl)); (all_goals (conv => whnf)))
  all_goals (apply Bool.eq_iff_iff.2; simp only [Bool.and_eq_true, decide_eq_true_eq, Bool.false_eq_true, false_iff] <;> omega)
end Go.Proofs.YtblabcopgeobgaaGreatDoor

namespace Go.Proofs.YtblabcopgeobgaaGreatDoor
open Go.RowKit
set_option maxRecDepth 100000
set_option maxHeartbeats 8000000
theorem dig_big {n : Nat} (h : ¬ n < 10) : (Lib.decDigits n).length = (Lib.decDigits (n / 10)).length + 1 := by
 rw [Lib.decDigits, dif_neg h]; simp
theorem dig_pos (n : Nat) : 1 ≤ (Lib.decDigits n).length := by
 rw [Lib.decDigits]; split <;> simp
theorem dig_mono : ∀ (n m : Nat), m ≤ n → (Lib.decDigits m).length ≤ (Lib.decDigits n).length := by
 intro n
 induction n using Nat.strongRecOn with
 | _ n ih =>
   intro m h
   by_cases h1 : m < 10
   ·rw [Lib.decDigits_one h1]; exact dig_pos n
   ·have := ih (n / 10) (by omega) (m / 10) (by omega)
    rw [dig_big h1, dig_big (n := n) (by omega)]; omega
theorem b128_dec : ∀ (n : Nat) (l : Bool), (b128 l n).length ≤ (Lib.decDigits n).length := by
 intro n
 induction n using Nat.strongRecOn with
 | _ n ih =>
   intro l
   by_cases h : n < 128
   ·rw [b128_small l h]; exact dig_pos n
   ·have h1 := ih (n / 128) (by omega) false
    have h2 := dig_mono (n / 10) (n / 128) (by omega)
    rw [b128_big l h, dig_big (by omega), List.length_append, List.length_singleton]; omega
theorem flat_dec : ∀ r : List Nat, r ≠ [] → (r.flatMap (b128 true)).length + (r.length - 1) ≤ (textL r).length
 | [], h => absurd rfl h
 | [n], _ => by have := b128_dec n true; simpa [textL] using this
 | n :: m :: r, _ => by
   have h1 := b128_dec n true
   have h2 := flat_dec (m :: r) (by simp)
   rw [List.flatMap_cons, textL]
   simp only [List.length_append, List.length_cons] at h2 ⊢
   omega
theorem oidE_le (s : List UInt8) : (oidE s).length ≤ s.length := by
 unfold oidE
 cases h : arcsS s with
 | none => simp
 | some a =>
   obtain ⟨k1, k2, k3⟩ := arcsS_some h
   obtain ⟨x, y, r, rfl, x2, -⟩ := rightB_ne k1
   rw [← k3]
   have hx := dig_pos x
   have hb : (b128 true (40 * x + y)).length ≤ (Lib.decDigits y).length + 1 := by
    by_cases h1 : 40 * x + y < 128
    ·rw [b128_small _ h1, List.length_singleton]; omega
    ·have h2 := b128_dec ((40 * x + y) / 128) false
     have h3 := dig_mono y ((40 * x + y) / 128) (by omega)
     rw [b128_big _ h1, List.length_append, List.length_singleton]; omega
   show (b128 true (40 * x + y) ++ r.flatMap (b128 true)).length ≤ _
   rw [textL, List.length_append, List.length_append, List.length_cons]
   cases r with
   | nil => rw [textL]; simp only [List.flatMap_nil, List.length_nil]; omega
   | cons z q =>
     have h4 := flat_dec (z :: q) (by simp)
     rw [textL, List.length_append, List.length_cons]
     omega
theorem sumE_few : ∀ {l : List Mu}, (∀ m ∈ l, wMu m = m.oid.length + 10 * m.vs.length + m.vs.flatten.length ∧ m.oid.length + 10 * m.vs.length + m.vs.flatten.length ≤ 1500) → (l.map muE).flatten.length ≤ (l.map wMu).sum + 18 * l.length
 | [], _ => by simp
 | m :: r, h => by
   have ih := sumE_few (l := r) fun k hk => h k (by simp [hk])
   obtain ⟨h1, h2⟩ := h m (by simp)
   have k1 := oidE_le m.oid
   have k2 := encS_len 0 6 false (oidE m.oid) (by omega)
   have k3 := encS_len 0 17 true m.vs.flatten (by omega)
   have k4 := encS_len 0 16 true (encS 0 6 false (oidE m.oid) ++ encS 0 17 true m.vs.flatten) (by rw [List.length_append]; omega)
   rw [List.length_append] at k4
   have e : (muE m).length = (encS 0 16 true (encS 0 6 false (oidE m.oid) ++ encS 0 17 true m.vs.flatten)).length := rfl
   rw [List.map_cons, List.flatten_cons, List.length_append, List.map_cons, List.sum_cons, List.length_cons]
   omega
theorem few_sm {l : List Mu} (h : fewM l = true) : l.length ≤ 6 ∧ (∀ m ∈ l, m.sm) ∧ (muL' l).length ≤ 3000 := by
 obtain ⟨h1, h2, h3⟩ := fewM_facts h
 have h4 := sumE_few h3
 have h5 := encS_len 0 16 true (l.map muE).flatten (by omega)
 refine ⟨h1, fun m hm => ?_, by unfold muL'; omega⟩
 obtain ⟨k1, k2⟩ := h3 m hm
 exact ⟨by omega, by omega, by omega⟩
theorem sm_md {l : List Mu} (h1 : l.length ≤ 100000) (h2 : ∀ m ∈ l, m.sm) : l.length ≤ 1000000 ∧ ∀ m ∈ l, m.md := ⟨by omega, fun m hm => by
 obtain ⟨q1, q2, q3⟩ := h2 m hm
 exact ⟨by omega, q2, fun p hp => by have := flat_mem hp; omega⟩⟩
theorem mok_of {l : List Mu} (h : l ≠ [] ∧ l.all muV = true) : (!l.isEmpty && l.all muV) = true := by rw [h.2, Bool.and_true]; cases l with | nil => exact absurd rfl h.1 | cons _ _ => rfl
theorem mno_of {l : List Mu} (h : ¬ (l ≠ [] ∧ l.all muV = true)) : (!l.isEmpty && l.all muV) = false := by
 cases l with
 | nil => rfl
 | cons a r =>
   cases hh : (a :: r).all muV
   ·rfl
   ·exact absurd ⟨by simp, hh⟩ h
theorem lawMMar (l : List Mu) (hl : l.length ≤ hug ∧ ∀ m ∈ l, m.hz) : ACalls Tryz.prog 9 [.d (musD l)] (fun r => r = bv true) := by
 have hA := awake20
 have hF := rFewM_any l hl
 cases hf : fewM l
 ·rw [hf] at hF
  refine acalls_vc 75 _ tabOk mixed Tryz.func9 rfl (by kernel_rfl) rfl rfl rfl rfl fun W0 fp0 z0 => ?_
  (repeat' ((conv => whnf); first | refine NBr.yes ?_ | refine NBr.no ?_ | refine NCall.eq (hA) (by rfl) ?_ | refine NCall.eq (hF) (by first | rfl | (simp only [AV.gives, AV.give, un_musD]; first | done | rfl)) ?_)); (all_goals (conv => whnf))
  all_goals (refine NEnd.eq ?_; (repeat' (first | exact leW_refl _ | refine And.intro ?_ ?_ | exact rfl)))
 rw [hf] at hF
 obtain ⟨n1, n2, n3⟩ := few_sm hf
 have hM := marMu_any l (by omega) n2
 have hR := rMar_any l (by omega) n2
 have hV := valMu_any l (by omega) n2
 have hW := rVal_any l (by omega) n2
 by_cases hok : l ≠ [] ∧ l.all muV = true
 ·rw [marM, if_pos hok] at hM hR
  rw [mok_of hok] at hV hW
  have hP := parMu_any (muL' l) (by omega)
  rw [parA_put hok.1 hok.2 n2 (by omega)] at hP
  have hC := multis_any l l (sm_md (by omega) n2) (sm_md (by omega) n2)
  rw [decide_eq_true rfl] at hC
  have hB := bytesEq_any false false (muL' l) (muL' l) (by omega) (by omega)
  rw [beq_self_eq_true] at hB
  unfold muL' at hP hB
  refine acalls_vc 75 _ tabOk mixed Tryz.func9 rfl (by kernel_rfl) rfl rfl rfl rfl fun W0 fp0 z0 => ?_
  (repeat' ((conv => whnf); first | refine NBr.yes ?_ | refine NBr.no ?_ | refine NCall.eq (hA) (by rfl) ?_ | refine NCall.eq (hF) (by first | rfl | (simp only [AV.gives, AV.give, un_musD]; first | done | rfl)) ?_ | refine NCall.eq (hM) (by first | rfl | (simp only [AV.gives, AV.give, un_musD]; first | done | rfl)) ?_ | refine NCall.eq (hR) (by first | rfl | (simp only [AV.gives, AV.give, un_musD]; first | done | rfl)) ?_ | refine NCall.eq (hV) (by first | rfl | (simp only [AV.gives, AV.give, un_musD]; first | done | rfl)) ?_ | refine NCall.eq (hW) (by first | rfl | (simp only [AV.gives, AV.give, un_musD]; first | done | rfl)) ?_ | refine NCall.eq (hP) (by first | rfl | (simp only [AV.gives, AV.give, uns_bytesL]; first | done | rfl)) ?_ | refine NCall.eq (hC) (by first | rfl | (simp only [AV.gives, AV.give, un_musD, un_musU]; first | done | rfl)) ?_ | refine NCall.eq (hB) (by first | rfl | (simp only [AV.gives, AV.give, uns_bytesL]; first | done | rfl)) ?_ | refine NStep.go (step_eqEr rfl rfl (ltN rfl) rfl rfl) ?_)); (all_goals (conv => whnf))
  all_goals (refine NEnd.eq ?_; (repeat' (first | exact leW_refl _ | refine And.intro ?_ ?_ | exact rfl)))
 ·rw [marM, if_neg hok] at hM hR
  rw [mno_of hok] at hV hW
  have hB := bytesEq_any false false [] [] (by simp) (by simp)
  rw [beq_self_eq_true] at hB
  refine acalls_vc 75 _ tabOk mixed Tryz.func9 rfl (by kernel_rfl) rfl rfl rfl rfl fun W0 fp0 z0 => ?_
  (repeat' ((conv => whnf); first | refine NBr.yes ?_ | refine NBr.no ?_ | refine NCall.eq (hA) (by rfl) ?_ | refine NCall.eq (hF) (by first | rfl | (simp only [AV.gives, AV.give, un_musD]; first | done | rfl)) ?_ | refine NCall.eq (hM) (by first | rfl | (simp only [AV.gives, AV.give, un_musD]; first | done | rfl)) ?_ | refine NCall.eq (hR) (by first | rfl | (simp only [AV.gives, AV.give, un_musD]; first | done | rfl)) ?_ | refine NCall.eq (hV) (by first | rfl | (simp only [AV.gives, AV.give, un_musD]; first | done | rfl)) ?_ | refine NCall.eq (hW) (by first | rfl | (simp only [AV.gives, AV.give, un_musD]; first | done | rfl)) ?_ | (refine NCall.le (hB) ?_ ?_; focus ((repeat' (first | exact trivial | refine And.intro ?_ ?_ | exact rfl)); done)))); (all_goals (conv => whnf))
  all_goals (refine NEnd.eq ?_; (repeat' (first | exact leW_refl _ | refine And.intro ?_ ?_ | exact rfl)))
end Go.Proofs.YtblabcopgeobgaaGreatDoor

namespace Go.Proofs.YtblabcopgeobgaaGreatDoor
open Go.RowKit
set_option maxRecDepth 100000
set_option maxHeartbeats 8000000
theorem set_self {α : Type} {l : List α} {i : Nat} {x y : α} (h : l[i]? = some y) : l.set i x = l ↔ x = y := by
 obtain ⟨hlt, he⟩ := List.getElem?_eq_some_iff.1 h
 constructor
 ·intro e
  have := congrArg (fun m => m[i]?) e
  simp only [List.getElem?_set_self hlt, h, Option.some.injEq] at this
  exact this
 ·rintro rfl
  rw [← he, List.set_getElem_self]
theorem lawMCha (l : List Mu) (at' : UInt16) (x : UInt8) (hl : l.length ≤ hug ∧ ∀ m ∈ l, m.hz) : ACalls Tryz.prog 8 [.d (musD l), .d (.v (.int .u16 at'.toNat)), cv x.toNat] (fun r => r = bv true) := by
 have hA := awake20
 have hF := rFewM_any l hl
 have hat := at'.toNat_lt
 cases hf : fewM l
 ·rw [hf] at hF
  refine acalls_vc 93 _ tabOk mixed Tryz.func8 rfl (by kernel_rfl) rfl rfl rfl rfl fun W0 fp0 z0 => ?_
  (repeat' ((conv => whnf); first | refine NBr.yes ?_ | refine NBr.no ?_ | refine NCall.eq (hA) (by rfl) ?_ | refine NCall.eq (hF) (by first | rfl | (simp only [AV.gives, AV.give, un_musD]; first | done | rfl)) ?_)); (all_goals (conv => whnf))
  all_goals (refine NEnd.eq ?_; (repeat' (first | exact leW_refl _ | refine And.intro ?_ ?_ | exact rfl)))
 rw [hf] at hF
 obtain ⟨n1, n2, n3⟩ := few_sm hf
 have hM := marMu_any l (by omega) n2
 by_cases hok : l ≠ [] ∧ l.all muV = true
 case neg =>
  rw [marM, if_neg hok] at hM
  refine acalls_vc 93 _ tabOk mixed Tryz.func8 rfl (by kernel_rfl) rfl rfl rfl rfl fun W0 fp0 z0 => ?_
  (repeat' ((conv => whnf); first | refine NBr.yes ?_ | refine NBr.no ?_ | refine NCall.eq (hA) (by rfl) ?_ | refine NCall.eq (hF) (by first | rfl | (simp only [AV.gives, AV.give, un_musD]; first | done | rfl)) ?_ | refine NCall.eq (hM) (by first | rfl | (simp only [AV.gives, AV.give, un_musD]; first | done | rfl)) ?_)); (all_goals (conv => whnf))
  all_goals (refine NEnd.eq ?_; (repeat' (first | exact leW_refl _ | refine And.intro ?_ ?_ | exact rfl)))
 rw [marM, if_pos hok] at hM
 have hM : ACalls Tryz.prog 30 [.d (musD l)] (fun r => r = .tup [ownB 0 5 (muL' l), iv 0]) := hM
 have hpl := parA_put hok.1 hok.2 n2 (by omega)
 have hinj : ∀ w : List Mu, w ≠ [] → w.all muV = true → (∀ m ∈ w, m.sm) → w.length ≤ 2000 → muL' w = muL' l → w = l := fun w w0 w1 w2 w3 e => by
  have h1 := read_back hok.2 n2 (by omega)
  have h2 := read_back w1 w2 w3
  rw [e] at h2
  exact h2.symm.trans h1
 have hpos : 0 < (muL' l).length := by
  unfold muL' encS; rw [putS_len]; omega
 obtain ⟨y, hy⟩ : ∃ y, (muL' l)[at'.toNat % (muL' l).length]? = some y := ⟨_, List.getElem?_eq_getElem (Nat.mod_lt _ hpos)⟩
 have hi := Nat.mod_lt at'.toNat hpos
 have hP := parMu_any ((muL' l).set (at'.toNat % (muL' l).length) x) (by rw [List.length_set]; omega)
 have htwo := parA_two ((muL' l).set (at'.toNat % (muL' l).length) x) (by rw [List.length_set]; omega)
 have hxy := set_self (x := x) hy
 have gl : (((muL' l).length : Int) == 0) = false := by rw [beq_eq_false_iff_ne]; omega
 have hbl : ((muL' l).set (at'.toNat % (muL' l).length) x).length = (muL' l).length := List.length_set
 have hxi : ((x.toNat : Int) == (y.toNat : Int)) = decide (x = y) := by
  rw [Bool.eq_iff_iff, beq_iff_eq, decide_eq_true_eq, ← UInt8.toNat_inj]; omega
 generalize hb : muL' l = b at hM hpl hinj hpos hy hi hP htwo hxy gl hbl n3
 generalize hj : at'.toNat % b.length = i at hy hi hP htwo hxy hbl
 have hrem : ((at'.toNat : Int)).tmod (b.length : Int) = (i : Int) := by rw [Int.tmod_eq_emod_of_nonneg (by omega), ← hj]; rfl
 rcases htwo with ⟨w, h0, hw, he, hp⟩ | ⟨c, o, hc0, ho, hp⟩
 ·obtain ⟨k0, k2⟩ := muL_sm hw (by rw [← he, List.length_set]; omega)
  have k1 : w.length ≤ 2000 := by
   have q1 : (muL' w).length = 1 + (lenS (w.map muE).flatten.length).length + (w.map muE).flatten.length := putS_len _ _
   have q2 := mu_two w
   rw [← he, List.length_set] at q1
   omega
  have hM2 := marMu_any w k1 k2
  rw [marM, if_pos ⟨h0, hw⟩] at hM2
  have hM2 : ACalls Tryz.prog 30 [.d (musD w)] (fun r => r = .tup [ownB 0 5 (b.set i x), iv 0]) := by rw [he]; exact hM2
  have hC := multis_any w l (sm_md (by omega) k2) (sm_md (by omega) n2)
  have hB := bytesEq_any false false (b.set i x) (b.set i x) (by omega) (by omega)
  rw [beq_self_eq_true] at hB
  have hwl : decide (w = l) = decide (x = y) := by
   rw [Bool.eq_iff_iff, decide_eq_true_eq, decide_eq_true_eq, ← hxy]
   constructor
   ·rintro rfl; rw [he]; exact hb
   ·intro e; exact hinj w h0 hw k2 k1 (he ▸ e)
  rw [hwl] at hC
  rw [hp] at hP
  refine acalls_vc 93 _ (tabXOk [30]) mixed Tryz.func8 rfl (by kernel_rfl) rfl rfl rfl rfl fun W0 fp0 z0 => ?_
  (repeat' ((conv => whnf); first | refine NBr.yes ?_ | refine NBr.no ?_ | refine NBr.neg (by assumption) ?_ | refine NCall.eq (hA) (by rfl) ?_ | refine NCall.eq (hF) (by first | rfl | (simp only [AV.gives, AV.give, un_musD]; first | done | rfl)) ?_ | refine NStep.callX (hM) (hpos) rfl rfl rfl (ltN rfl) 2000 rfl rfl rfl (by (simp only [AV.gives, AV.give, un_musD, un_musU]; first | done | rfl)) ?_ | refine NStep.go (step_lenPk rfl rfl (ltN rfl) Tryz.underlying22 rfl) ?_ | refine NInt.as ((i : Int) ) ( hrem) ?_ | refine NStep.go (step_idxPk i rfl rfl (ltN rfl) Tryz.underlying22 tyB rfl rfl rfl hi) ?_ | refine NStep.go (step_loadW rfl rfl (ltN rfl) rfl rfl hy) ?_ | refine NStep.go (step_storeW rfl rfl rfl rfl rfl hi) ?_ | refine NStep.frz2 7 51 2000 _ (hbl.symm) rfl rfl rfl ?_ | refine NStep.call (hP) rfl rfl (ltN rfl) 4000 rfl rfl rfl (by (simp only [AV.gives, AV.give, un_bytesD]; first | done | rfl)) ?_ | refine NStep.call (hM2) rfl rfl (ltN rfl) 3000 rfl rfl rfl (by (simp only [AV.gives, AV.give, un_musU]; first | done | rfl)) ?_ | refine NCall.eq (hC) (by first | rfl | (simp only [AV.gives, AV.give, un_musD, un_musU]; first | done | rfl)) ?_ | refine NCall.eq (hB) (by first | rfl | (simp only [AV.gives, AV.give, un_bytesD, uns_bytesL]; first | done | rfl)) ?_ | (with_reducible refine NInt.i64 ?_) | refine NFact.go (by first | decide | omega | (simp only [List.length_cons, List.length_nil]; omega)) ?_)); (all_goals (conv => whnf))
  all_goals (refine NEnd.eq ?_; (repeat' (first | refine And.intro ?_ ?_ | exact rfl)); (all_goals (conv => whnf)))
  all_goals (rw [hxi]; exact beq_self_eq_true _)
 ·have hne : ¬ x = y := fun e => by
   have h1 := hxy.2 e
   rw [h1, hpl] at hp
   cases c with
   | zero => exact hc0 rfl
   | succ c => cases hp
  have hC := multis_any [] [] ⟨by simp, by simp⟩ ⟨by simp, by simp⟩
  rw [decide_eq_true rfl] at hC
  have hW := wi_any c o (b.set i x).length (fun h => absurd h hc0) (fun _ => ho)
  have gc : ((c : Int) != 0) = true := by rw [bne_iff_ne]; omega
  have gx : ((x.toNat : Int) != (y.toNat : Int)) = true := by rw [bne, hxi, decide_eq_false hne]; rfl
  rw [hp] at hP
  refine acalls_vc 93 _ (tabXOk [30]) mixed Tryz.func8 rfl (by kernel_rfl) rfl rfl rfl rfl fun W0 fp0 z0 => ?_
  (repeat' ((conv => whnf); first | refine NBr.yes ?_ | refine NBr.no ?_ | refine NBr.pos (by assumption) ?_ | refine NBr.neg (by assumption) ?_ | refine NCall.eq (hA) (by rfl) ?_ | refine NCall.eq (hF) (by first | rfl | (simp only [AV.gives, AV.give, un_musD]; first | done | rfl)) ?_ | refine NStep.callX (hM) (hpos) rfl rfl rfl (ltN rfl) 2000 rfl rfl rfl (by (simp only [AV.gives, AV.give, un_musD]; first | done | rfl)) ?_ | refine NStep.go (step_lenPk rfl rfl (ltN rfl) Tryz.underlying22 rfl) ?_ | refine NInt.as ((i : Int) ) ( hrem) ?_ | refine NStep.go (step_idxPk i rfl rfl (ltN rfl) Tryz.underlying22 tyB rfl rfl rfl hi) ?_ | refine NStep.go (step_loadW rfl rfl (ltN rfl) rfl rfl hy) ?_ | refine NStep.go (step_storeW rfl rfl rfl rfl rfl hi) ?_ | refine NStep.frz2 7 51 2000 _ (hbl.symm) rfl rfl rfl ?_ | refine NStep.call (hP) rfl rfl (ltN rfl) 4000 rfl rfl rfl (by (simp only [AV.gives, AV.give, un_bytesD]; first | done | rfl)) ?_ | refine NStep.go (step_len (sz := 1) rfl rfl (ltN rfl) Tryz.underlying22 rfl rfl) ?_ | (refine NCall.le (hC) ?_ ?_; focus ((repeat' (first | exact trivial | exact leW_refl _ | refine And.intro ?_ ?_ | exact rfl)); done)) | refine NCall.eq (hW) (by rfl) ?_ | (with_reducible refine NInt.i64 ?_) | refine NFact.go (by first | decide | omega | (simp only [List.length_cons, List.length_nil]; omega)) ?_)); (all_goals (conv => whnf))
  all_goals (refine NEnd.eq ?_; (repeat' (first | exact leW_refl _ | refine And.intro ?_ ?_ | exact rfl)))
end Go.Proofs.YtblabcopgeobgaaGreatDoor

namespace Go.Proofs.YtblabcopgeobgaaGreatDoor
open Go.ChangeShapes Go.WideShapes Go.ChangeAt Go.RowKit Go.Joins
def OpZ {α : Type} (t : TypeId) (n : Nat) (C : α → List D) (ok : α → Prop) : Prop :=
 ∀ {H : Type} (enc : TypeId × Value → H) (w : World) (fuel : Nat) (cs : List Value) (x : DataW H × List MemPlace), DataW.trod enc Tryz.prog w 0 (fun _ => true) true fuel t cs = some x → (∀ y ∈ x.1.weights Tryz.prog t, y ≤ reachBytes) → ∃ a, ok a ∧ cs.length = n ∧ RdsW w (C a) cs
theorem Op.z {α : Type} {t : TypeId} {n : Nat} {C : α → List D} {ok : α → Prop} (h : Op t n C ok) : OpZ t n C ok := fun enc w fuel cs x h1 _ => h enc w fuel cs x h1
theorem reach_hug : reachBytes ≤ hug := Nat.le_of_ble_eq_true rfl
theorem opz_str {t : TypeId} (ht : Tryz.prog.underlying t = some .string) : OpZ t 1 (fun l : List UInt8 => [sD l]) (fun l => l.length ≤ hug) := by
 intro H enc w fuel cs x h hw
 obtain ⟨s, rfl, rfl, hs⟩ := DataW.trod_string ht h
 have := hw s.data.toList.length (by simp [DataW.weights])
 exact ⟨s.data.toList, Nat.le_trans this reach_hug, rfl, .single rfl (.v _)⟩
theorem weightsAll_mem {H : Type} {P : Program} {e : TypeId} {y : Nat} : ∀ {l : List (DataW H)} {d : DataW H}, d ∈ l → y ∈ d.weights P e → y ∈ DataW.weightsAll P e l
 | [], _, h, _ => by cases h
 | c :: r, d, h, hy => by
   rw [DataW.weightsAll, List.mem_append]
   rcases List.mem_cons.1 h with rfl | h
   ·exact .inl hy
   ·exact .inr (weightsAll_mem h hy)
theorem weightsEach_mem {H : Type} {P : Program} {y : Nat} : ∀ {ts : List TypeId} {l : List (DataW H)} {i : Nat} {t : TypeId} {d : DataW H}, ts[i]? = some t → l[i]? = some d → y ∈ d.weights P t → y ∈ DataW.weightsEach P ts l
 | [], _, i, _, _, h, _, _ => by simp at h
 | _ :: _, [], i, _, _, _, h, _ => by simp at h
 | t :: ts, d :: r, 0, t', d', h, h', hy => by
   simp at h h'; subst h h'
   rw [DataW.weightsEach, List.mem_append]; exact .inl hy
 | t :: ts, d :: r, i + 1, t', d', h, h', hy => by
   rw [DataW.weightsEach, List.mem_append]
   exact .inr (weightsEach_mem (i := i) (by simpa using h) (by simpa using h') hy)
theorem weights_slice {H : Type} {P : Program} {t e : TypeId} (ht : P.underlying t = some (.slice e)) (l r : List (DataW H)) : DataW.weights P t (.slice l r) = (l.length + r.length) * P.bytesOf e :: (DataW.weightsAll P e l ++ DataW.weightsAll P e r) := by
 rw [DataW.weights, ht]
theorem weights_agg {H : Type} {P : Program} {t : TypeId} {fs : Array Field} (ht : P.underlying t = some (.struct fs)) (l : List (DataW H)) : DataW.weights P t (.agg l) = DataW.weightsEach P (fs.toList.map (·.type)) l := by
 rw [DataW.weights, ht]
theorem opz_slice {α : Type} {t e : TypeId} {n q : Nat} {C : α → List D} {ok : α → Prop} (ht : Tryz.prog.underlying t = some (.slice e)) (hc : Tryz.prog.cellsOf e = n) (hq : Tryz.prog.bytesOf e = q + 1) (he : OpZ e n C ok) :
 OpZ t 1 (fun l : List α => [tabD false n C l]) (fun l => l.length ≤ hug ∧ ∀ a ∈ l, ok a) := by
 intro H enc w fuel cs x h hwt
 rcases DataW.trod_slice ht h with ⟨rfl, -⟩ | ⟨a, len, cap, elems, rest, m, rfl, rfl, rfl, -, hl, hm, hlen, hel, -, -⟩
 ·refine ⟨[], ⟨by simp, fun a h => by cases h⟩, rfl, .single rfl ?_⟩
  exact .sl [] (Nat.le_refl _) (Nat.zero_le _) (by simp) rfl (fun _ => rfl) (fun u hu => by cases hu) (fun i d u hd => by simp at hd) (fun i u hu => by cases hu)
 ·rw [hc] at hel
  have hw0 := hwt
  dsimp only at hw0
  rw [weights_slice ht] at hw0
  have hlen2 : len ≤ hug := by
   have := hw0 _ (List.mem_cons_self ..)
   rw [hq, List.length_map, hlen] at this
   have h2 : len ≤ (len + (rest.map (·.1)).length) * (q + 1) := Nat.le_trans (Nat.le_add_right _ _) (Nat.le_mul_of_pos_right _ (Nat.succ_pos q))
   exact Nat.le_trans (Nat.le_trans h2 this) reach_hug
  have hp : ∀ i, i < len → ∃ (a' : α) (c : List Value), (w.cells? 0 (a.add (i * n)) n = some c ∧ ok a' ∧ c.length = n ∧ RdsW w (C a') c) := by
   intro i hi
   have h1 := hel i hi
   rw [List.getElem?_eq_getElem (by omega)] at h1
   obtain ⟨c, h2, h3⟩ := Option.bind_eq_some_iff.1 h1
   obtain ⟨a', k1, k2, k3⟩ := he enc w m c _ h3 fun y hy => hw0 y (List.mem_cons_of_mem _ (List.mem_append_left _ (weightsAll_mem (List.mem_map_of_mem (List.getElem_mem _)) hy)))
   exact ⟨a', c, h2, k1, k2, k3⟩
  obtain ⟨al, css, l1, l2, l3⟩ := pick_all hp
  have hcn : ∀ c ∈ css, c.length = n := fun c hc => by
   obtain ⟨i, hi⟩ := List.mem_iff_getElem?.1 hc
   have := (List.getElem?_eq_some_iff.1 hi).1
   exact (l3 i _ c (List.getElem?_eq_getElem (by omega)) hi).2.2.1
  obtain ⟨r1, r2, r3⟩ := rows_get (w := w) (n := n) (ds := al.map C) (cs := css) (by simp [l1, l2]) hcn (fun i d c hd hc => by
   rw [List.getElem?_map, Option.map_eq_some_iff] at hd
   obtain ⟨a', ha, rfl⟩ := hd
   exact (l3 i a' c ha hc).2.2.2)
  refine ⟨al, ⟨by rw [l1]; exact hlen2, fun a' ha => ?_⟩, rfl, .single rfl ?_⟩
  ·obtain ⟨i, hi⟩ := List.mem_iff_getElem?.1 ha
   have := (List.getElem?_eq_some_iff.1 hi).1
   exact (l3 i a' _ hi (List.getElem?_eq_getElem (by omega))).2.1
  ·have hcell : ∀ i u, css.flatten[i]? = some u → w.cell? ((a.add (i / n * n)).add (i % n)) = some u ∧ i / n * n + i % n = i := fun i u hu => by
    have hi := (List.getElem?_eq_some_iff.1 hu).1
    obtain ⟨c, k1, k2, k3, k4⟩ := r3 i hi
    have hq := (l3 (i / n) _ c (List.getElem?_eq_getElem (by omega)) k1).1
    have := (World.cells?_some hq).2.2 (i % n) k3
    rw [k2] at hu
    rw [hu] at this
    exact ⟨this, by rw [Nat.mul_comm]; exact Nat.div_add_mod i n⟩
   have r2' : (al.flatMap C).length = al.length * n := by
    rw [List.flatMap_def, r1.len, r2, l1, l2]
   rw [← l1]
   refine .sl css.flatten (by rw [l1]; exact hl) hm r2' (by rw [List.flatMap_def]; exact r1.len.symm) (fun h => by cases h) r1.one (fun i d u hd hu => ?_) (fun i u hu => ?_)
   ·rw [List.flatMap_def] at hd
    exact r1.rd i d u hd hu
   ·obtain ⟨ab, ao, spot⟩ := a
    have hs : spot = none := by
     have hi := (List.getElem?_eq_some_iff.1 hu).1
     have h0 := (hcell 0 _ (List.getElem?_eq_getElem (by omega))).1
     rw [Nat.zero_div, Nat.zero_mod, Nat.zero_mul] at h0
     simpa [Addr.add] using World.cell?_spot h0
    subst hs
    obtain ⟨hq, he⟩ := hcell i u hu
    rw [Addr.add_lit, Addr.add_lit, Nat.add_assoc, he] at hq
    exact ⟨ab, ao, rfl, World.block_lt_of_cell? w _ hq, fun h => (by cases h), hq⟩
theorem opz_bytes : OpZ 22 1 (fun l : List UInt8 => [bytesD false l]) (fun l => l.length ≤ hug) := by
 intro H enc w fuel cs x h hw
 obtain ⟨l, ⟨h1, -⟩, h2, h3⟩ := opz_slice Tryz.underlying22 (by kernel_rfl) (q := 0) (by kernel_rfl) op_u8.z enc w fuel cs x h hw
 exact ⟨l, h1, h2, by show RdsW w [bytesD false l] cs; rw [← bytesT]; exact h3⟩
theorem opz_parts : OpZ 87 1 (fun l : List (List UInt8) => [partsD l]) (fun l => l.length ≤ hug ∧ ∀ p ∈ l, p.length ≤ hug) := opz_slice Tryz.underlying87 (by kernel_rfl) (q := 23) (by kernel_rfl) opz_bytes
theorem field_z {H : Type} {enc : TypeId × Value → H} {w : World} {fs : Array Field} {m : Nat} {cs : List Value} {xs : List (DataW H × List MemPlace)} (hl : xs.length = fs.size) (h : ∀ (i : Nat) (f : Field), fs[i]? = some f → DataW.trod enc Tryz.prog w 0 (fun _ => true) true m f.type ((cs.drop f.offset).take (Tryz.prog.cellsOf f.type)) = xs[i]?)
 (hw : ∀ y ∈ DataW.weightsEach Tryz.prog (fs.toList.map (·.type)) (xs.map (·.1)), y ≤ reachBytes)
 {α : Type} {C : α → List D} {ok : α → Prop} {t : TypeId} {o n : Nat} (i : Nat) (hf : (fs[i]?).map (fun f => (f.type, f.offset)) = some (t, o)) (hc : Tryz.prog.cellsOf t = n) (hop : OpZ t n C ok) : ∃ a, ok a ∧ RdsW w (C a) ((cs.drop o).take n) := by
 obtain ⟨f, hf1, hf2⟩ := Option.map_eq_some_iff.1 hf
 simp only [Prod.mk.injEq] at hf2
 obtain ⟨rfl, rfl⟩ := hf2
 have h1 := h i f hf1
 have hi : i < xs.length := by rw [hl]; exact (Array.getElem?_eq_some_iff.1 hf1).1
 rw [List.getElem?_eq_getElem hi, hc] at h1
 obtain ⟨a, k1, -, k3⟩ := hop enc w m _ _ h1 fun y hy => hw y (weightsEach_mem (i := i) (t := f.type) (d := xs[i].1) (by rw [List.getElem?_map, Array.getElem?_toList, hf1]; rfl) (by rw [List.getElem?_map, List.getElem?_eq_getElem hi]; rfl) hy)
 exact ⟨a, k1, k3⟩
theorem opz_mu : OpZ 89 2 muC Mu.hz := by
 intro H enc w fuel cs x h hw
 obtain ⟨xs, m, -, rfl, hl, hn, hf⟩ := DataW.trod_struct Tryz.underlying89 h
 have hl' : cs.length = 2 := hl.trans (by kernel_rfl)
 have hw' := hw
 rw [weights_agg Tryz.underlying89] at hw'
 obtain ⟨o, k0, r0⟩ := field_z hn hf hw' (o := 0) 0 (by kernel_rfl) (by kernel_rfl) (opz_str Tryz.underlying9)
 obtain ⟨v, k1, r1⟩ := field_z hn hf hw' (o := 1) 1 (by kernel_rfl) (by kernel_rfl) opz_parts
 exact ⟨⟨o, v⟩, ⟨k0, k1.1, k1.2⟩, hl', drop0 (seg_cons r0 (seg_cons r1 (seg_nil hl')))⟩
theorem opz_mus : OpZ 58 1 (fun l => [musD l]) (fun l => l.length ≤ hug ∧ ∀ m ∈ l, m.hz) := opz_slice Tryz.underlying58 (by kernel_rfl) (q := 39) (by kernel_rfl) opz_mu
set_option maxRecDepth 100000 in
theorem arg_oneZ {α : Type} {t : TypeId} {c : α → D} {ok : α → Prop} (hop : OpZ t 1 (fun a => [c a]) ok) {H : Type} {enc : TypeId × Value → H} {W : World} {v : Value} {d : DataW H} {p : List MemPlace}
 (hv : v.cells.toList = [v]) (h : DataW.Trod enc Tryz.prog W 0 (fun _ => true) true t v d p) (hw : ∀ y ∈ d.weights Tryz.prog t, y ≤ reachBytes) : ∃ a, ok a ∧ ARA W (.d (c a)) v := by
 obtain ⟨fuel, hf⟩ := h
 obtain ⟨a, k1, -, k3⟩ := hop enc W fuel _ _ hf hw
 rw [hv] at k3
 exact ⟨a, k1, .d (k3.rd 0 _ _ rfl rfl)⟩
theorem rih_sized {H : Type} {enc : TypeId × Value → H} {a : Assume} {C : Checked} {os : Os} {f : FuncId} {fn : Func} {s : ChangeSpec} {conds : List PathCond} {apart fresh handsOn again : Bool} {X : World → Array Value → Prop}
 (hX : ∀ (w w' : World) (args : Array Value), w.heap = w'.heap → X w args → X w' args)
 (own : ownKnob C.prog.godebug = none) (started : os.Started) (noInit : C.prog.inits.idxOf? f = none) (hfn : C.prog.funcs[f]? = some fn)
 (witness : ∃ (w : World) (tape : Tape) (i : Input), w.os = os ∧ (w.forCall tape i).Shaped C.prog ∧ i.vars = [] ∧ Input.okWide C.prog (w.forCall tape i) .any w.heap.size f i ∧
   ((s.pre enc C.prog fn conds apart (w.forCall tape i).memory i.args ∧ X (w.forCall tape i).memory i.args) ∧ sizedMet enc C.prog fn (OpenSpec.ofChange s) apart (w.forCall tape i).memory i.args) ∧ a.holds C.prog (lone (Frame.enter C.prog f i.args .normal) [] (w.forCall tape i)))
 (contract : ∀ (W : World) (base : Nat) (args : Array Value) (ds gs : List (DataW H)) (before : List MemPlace) (dz gz : List (DataW H)) (bz : List MemPlace),
   (∀ (j : Nat) t v, fn.params[j]? = some t → args[j]? = some v → Value.okWide C.prog W .any base t v) →
   DataW.Whole enc C.prog fn.params.toList s.vars apart W args.toList ds gs before → W.ShapedOpen C.prog → X W args →
   DataW.Whole enc C.prog fn.params.toList s.vars apart W args.toList dz gz bz →
   (∀ (i : Nat) t d, fn.params.toList[i]? = some t → dz[i]? = some d → ∀ y ∈ d.weights C.prog t, y ≤ reachBytes) →
   Calls C.prog f args W fun e W' => ∃ v, e = .returned v ∧ s.post enc C.prog fn apart fresh handsOn again W args v W') :
 ReturnsInHanded a C os f .any (fun w args => (s.pre enc C.prog fn conds apart w args ∧ X w args) ∧ sizedMet enc C.prog fn (OpenSpec.ofChange s) apart w args) (s.post enc C.prog fn apart fresh handsOn again) := by
 refine returnsInHanded_of_calls own started noInit witness ?_
 intro w tape i _ hsh _ hok hpre hholds
 obtain ⟨_, _, _, fn', hfn', _, _, _, _, hval⟩ := hok
 have e : fn' = fn := Option.some.inj (hfn'.symm.trans hfn)
 subst e
 obtain ⟨⟨⟨ds, gs, before, hw, hc⟩, hx⟩, ⟨-, dz, gz, bz, hz, hwt⟩⟩ := hpre
 have hw' := DataW.Whole.of_heap (w' := w.forCall tape i) (by rfl) hw
 have hz' := DataW.Whole.of_heap (w' := w.forCall tape i) (by rfl) hz
 refine (contract (w.forCall tape i) w.heap.size i.args ds gs before dz gz bz hval hw' hsh (hX _ _ _ (by rfl) hx) hz' (fun i t d ht hd y hy => by simpa using List.all_eq_true.1 hwt y (weightsEach_mem (i := i) (t := t) (d := d) (by rw [List.getElem?_append_left (List.getElem?_eq_some_iff.1 ht).1]; exact ht) (by rw [List.getElem?_append_left (List.getElem?_eq_some_iff.1 hd).1]; exact hd) hy))).mono fun e W' ⟨v, he, hp⟩ => ?_
 subst he
 exact ChangeSpec.post_blind hp
end Go.Proofs.YtblabcopgeobgaaGreatDoor
