/- MK: the texts Acc Mul Mul2 Mul3 OpnA Awk20, one behind the other. No condition but what each lemma says. -/
import Derived.Test.YtblabcopgeobgaaGreatDoorMH
import Derived.Test.YtblabcopgeobgaaGreatDoorMI
import Derived.Test.YtblabcopgeobgaaGreatDoorMD
import Derived.Test.YtblabcopgeobgaaGreatDoorMJ
import Derived.Test.YtblabcopgeobgaaGreatDoorMC
import Derived.Test.YtblabcopgeobgaaGreatDoorMG
namespace Go.Proofs.YtblabcopgeobgaaGreatDoor
open Go.RowKit
structure Acc where
 m : List UInt8
 g : Gn
def accC (a : Acc) : List D := sD a.m :: gnC a.g
def accsD (l : List Acc) : D := tabD false 10 accC l
theorem accC_uns (a : Acc) : D.uns (accC a) = accC a := by
 show D.un (sD a.m) :: D.uns (gnC a.g) = _
 rw [gnC_uns]; rfl
theorem un_accsD (l : List Acc) : (accsD l).un = accsD l := un_tab accC_uns false 10 l
set_option maxRecDepth 100000
set_option maxHeartbeats 8000000
end Go.Proofs.YtblabcopgeobgaaGreatDoor

namespace Go.Proofs.YtblabcopgeobgaaGreatDoor
open Go.RowKit
set_option maxRecDepth 100000
set_option maxHeartbeats 8000000
def openI (b : List UInt8) : Bool := (wholeS b).code == 0
theorem whole_two (b : List UInt8) : (∃ s, wholeS b = ⟨[s], 0, 0⟩) ∨ (∃ c o, c ≠ 0 ∧ wholeS b = ⟨[], c, o⟩) := by
 have hF := readS_rds b 16 b.length (by omega) 0 (by omega)
 dsimp only at hF
 unfold wholeS
 generalize readS b 16 0 b.length = r at hF
 by_cases h : r.code = 0
 ·obtain ⟨s, rfl, h1, h2⟩ := hF.1 h
  by_cases h3 : s.stop < b.length
  ·rw [wholeR_long h3]; exact .inr ⟨_, _, by simp, rfl⟩
  ·rw [wholeR_ok h3]; exact .inl ⟨s, rfl⟩
 ·obtain ⟨l, c, o⟩ := r
  have hl : l = [] := (hF.2 h).2
  subst hl
  have h' : ¬ c = 0 := h
  rw [wholeR_bad]; exact .inr ⟨c, o, h', by simp [SR.bad]⟩
theorem open_any (b : List UInt8) (hb : b.length ≤ 1000000000) : ACalls Tryz.prog 108 [.d (bytesD false b)] (fun r => r = bv (openI b)) := by
 have hP := parse_any b hb
 unfold openI
 rcases whole_two b with ⟨s, h⟩ | ⟨c, o, hc0, h⟩
 ·rw [h] at hP ⊢
  obtain ⟨a, q, c, n, k, b', ks⟩ := s
  have hP' : ACalls Tryz.prog 131 [.d (bytesD false b)] (fun r => r = .tup [.agg ((nodeC true (.mk a q c n k b' ks)).map AV.d), erA 0 0]) := hP
  refine acalls_vc 13 _ tabOk mixed Tryz.func108 rfl (by kernel_rfl) rfl rfl rfl rfl fun W0 fp0 z0 => ?_
  (repeat' ((conv => whnf); refine NCall.eq (hP') (by first | rfl | (simp only [AV.gives, AV.give, un_bytesD]; first | done | rfl)) ?_)); (all_goals (conv => whnf))
  all_goals (refine NEnd.eq ?_; (repeat' (first | exact leW_refl _ | refine And.intro ?_ ?_ | exact rfl)))
 ·rw [h] at hP ⊢
  have hP' : ACalls Tryz.prog 131 [.d (bytesD false b)] (fun r => r = .tup [.agg [iv 0, iv 0, bv false, .d (.v (.slice none 0 0)), .d (.v (.slice none 0 0))], erA c o]) := by
   cases c with
   | zero => exact absurd rfl hc0
   | succ c => exact hP
  have gc : ((c : Int) == 0) = false := by rw [beq_eq_false_iff_ne]; simpa using hc0
  have gd : (c == 0) = false := by rw [beq_eq_false_iff_ne]; exact hc0
  refine acalls_vc 13 _ tabOk mixed Tryz.func108 rfl (by kernel_rfl) rfl rfl rfl rfl fun W0 fp0 z0 => ?_
  (repeat' ((conv => whnf); refine NCall.eq (hP') (by first | rfl | (simp only [AV.gives, AV.give, un_bytesD]; first | done | rfl)) ?_)); (all_goals (conv => whnf))
  all_goals (refine NEnd.eq ?_; (repeat' (first | refine And.intro ?_ ?_ | exact rfl)); (all_goals (conv => whnf)))
  all_goals exact gc.trans gd.symm
theorem fits1_any (b : List UInt8) (hb : b.length ≤ 1000000000) : ACalls Tryz.prog 107 [.d (bytesD false b)] (fun r => r = bv (!openI b)) := by
 have hO := open_any b hb
 refine acalls_vc 6 _ tabOk mixed Tryz.func107 rfl (by kernel_rfl) rfl rfl rfl rfl fun W0 fp0 z0 => ?_
 (repeat' ((conv => whnf); refine NCall.eq (hO) (by first | rfl | (simp only [AV.gives, AV.give, un_bytesD]; first | done | rfl)) ?_)); (all_goals (conv => whnf))
 all_goals (refine NEnd.eq ?_; (repeat' (first | exact leW_refl _ | refine And.intro ?_ ?_ | exact rfl)))
theorem all_take1 {α : Type} (f : α → Bool) {l : List α} {i : Nat} {x : α} (h : l[i]? = some x) (hx : f x = true) (ha : (l.take i).all f = true) : (l.take (i + 1)).all f = true := by
 obtain ⟨hlt, he⟩ := List.getElem?_eq_some_iff.1 h
 rw [List.take_succ_eq_append_getElem hlt, he, List.all_append, ha]; simp [hx]
def idxB (ps : List (List UInt8)) : Int := if ps.all openI then -1 else ((ps.takeWhile openI).length : Int)
theorem tw_at {α : Type} (f : α → Bool) : ∀ {l : List α} {i : Nat} {x : α}, (l.take i).all f = true → l[i]? = some x → f x = false → (l.takeWhile f).length = i ∧ l.all f = false
 | [], i, x, _, h, _ => by simp at h
 | y :: r, 0, x, _, h, hx => by
   obtain rfl : y = x := by simpa using h
   simp [hx]
 | y :: r, i + 1, x, ha, h, hx => by
   rw [List.take_succ_cons, List.all_cons, Bool.and_eq_true] at ha
   obtain ⟨q1, q2⟩ := tw_at f ha.2 (by simpa using h) hx
   rw [List.takeWhile_cons, ha.1, if_pos rfl, List.length_cons, q1, List.all_cons, q2]
   simp
theorem idxF_any (ps : List (List UInt8)) (hn : ps.length ≤ 1000000000) (hl : ∀ p ∈ ps, p.length ≤ 1000000000) : ACalls Tryz.prog 130 [.d (partsD ps), .d (.fn 107 [])] (fun r => r = iv (idxB ps)) := by
 refine acalls_vc 19 _ tabOk mixed Tryz.func130 rfl (by kernel_rfl) rfl rfl rfl rfl fun W0 fp0 z0 => ?_
 (all_goals (conv => whnf))
 refine NLoop.go (fun i : Nat => i ≤ ps.length ∧ (ps.take i).all openI = true) (fun i => ps.length - i) (fun i => ⟨[(0, .d (partsD ps)), (1, .d (.fn 107 [])), (7, iv ps.length), (8, iv i)], [], []⟩) 0 ⟨by omega, rfl⟩ (by ((repeat' (first | exact trivial | exact leW_refl _ | refine And.intro ?_ ?_)))) ?_
 rintro i ⟨hi, ha⟩
 by_cases hik : i < ps.length
 ·have gi : decide ((i : Int) < ps.length) = true := decide_eq_true (by omega)
  obtain ⟨b, hg⟩ : ∃ p, ps[i]? = some p := ⟨_, List.getElem?_eq_getElem hik⟩
  have hF := fits1_any b (hl b (List.mem_of_getElem? hg))
  cases hb : openI b
  ·rw [hb] at hF
   obtain ⟨q1, q2⟩ := tw_at openI ha hg hb
   rw [show idxB ps = i by unfold idxB; rw [q2, q1]; rfl]
   (repeat' ((conv => whnf); first | refine NBr.yes ?_ | refine NBr.pos (by assumption) ?_ | refine NIdx.tab (fun _ => rfl) hg ?_ | refine NCall.eq (hF) (by first | rfl | (simp only [AV.gives, AV.give, un_bytesD, List.nil_append, List.cons_append]; first | done | rfl)) ?_)); (all_goals (conv => whnf))
   all_goals (refine NEnd.eq ?_; (repeat' (first | exact leW_refl _ | refine And.intro ?_ ?_ | exact rfl)))
  ·rw [hb] at hF
   (repeat' ((conv => whnf); first | refine NBr.no ?_ | refine NBr.pos (by assumption) ?_ | refine NIdx.tab (fun _ => rfl) hg ?_ | refine NCall.eq (hF) (by first | rfl | (simp only [AV.gives, AV.give, un_bytesD, List.nil_append, List.cons_append]; first | done | rfl)) ?_ | (with_reducible refine NInt.i64 ?_))); (all_goals (conv => whnf))
   refine ⟨i + 1, ⟨by omega, all_take1 openI hg hb ha⟩, by omega, ?_⟩
   ((repeat' (first | exact trivial | exact leW_refl _ | refine And.intro ?_ ?_)))
 ·have gi : decide ((i : Int) < ps.length) = false := decide_eq_false (by omega)
  obtain rfl : i = ps.length := by omega
  rw [List.take_length] at ha
  rw [show idxB ps = -1 by unfold idxB; rw [ha]; rfl]
  (repeat' ((conv => whnf); refine NBr.neg (by assumption) ?_)); (all_goals (conv => whnf))
  all_goals (refine NEnd.eq ?_; (repeat' (first | exact leW_refl _ | refine And.intro ?_ ?_ | exact rfl)))
theorem idxB_ge (ps : List (List UInt8)) : decide (idxB ps ≥ 0) = !ps.all openI := by
 unfold idxB
 cases ps.all openI
 ·rw [if_neg (by simp)]; exact decide_eq_true (by omega)
 ·rw [if_pos rfl]; rfl
theorem contF_any (ps : List (List UInt8)) (hn : ps.length ≤ 1000000000) (hl : ∀ p ∈ ps, p.length ≤ 1000000000) : ACalls Tryz.prog 106 [.d (partsD ps), .d (.fn 107 [])] (fun r => r = bv (!ps.all openI)) := by
 have hI := idxF_any ps hn hl
 rw [← idxB_ge]
 refine acalls_vc 9 _ tabOk mixed Tryz.func106 rfl (by kernel_rfl) rfl rfl rfl rfl fun W0 fp0 z0 => ?_
 (repeat' ((conv => whnf); refine NCall.eq (hI) (by first | rfl | (simp only [AV.gives, AV.give, D.un, D.uns, un_partsD]; first | done | rfl)) ?_)); (all_goals (conv => whnf))
 all_goals (refine NEnd.eq ?_; (repeat' (first | exact leW_refl _ | refine And.intro ?_ ?_ | exact rfl)))
def fitsB (ps : List (List UInt8)) : Bool := decide (ps.length > 0) && ordB ps && ps.all openI
theorem fits_any (ps : List (List UInt8)) (hn : ps.length ≤ 1000000000) (hl : ∀ p ∈ ps, p.length ≤ 1000000000) : ACalls Tryz.prog 76 [.d (partsD ps)] (fun r => r = bv (fitsB ps)) := by
 have hO := ordered_any ps hn hl
 have hC := contF_any ps hn hl
 unfold fitsB
 by_cases h0 : ps.length > 0
 ·have gi : decide ((ps.length : Int) > 0) = true := decide_eq_true (by omega)
  rw [decide_eq_true h0]
  cases h1 : ordB ps
  ·rw [h1] at hO
   refine acalls_vc 15 _ tabOk mixed Tryz.func76 rfl (by kernel_rfl) rfl rfl rfl rfl fun W0 fp0 z0 => ?_
   (repeat' ((conv => whnf); first | refine NBr.yes ?_ | refine NBr.no ?_ | refine NBr.pos (by assumption) ?_ | refine NCall.eq (hO) (by first | rfl | (simp only [AV.gives, AV.give, un_partsD]; first | done | rfl)) ?_)); (all_goals (conv => whnf))
   all_goals (refine NEnd.eq ?_; (repeat' (first | exact leW_refl _ | refine And.intro ?_ ?_ | exact rfl)))
  ·rw [h1] at hO
   cases h2 : ps.all openI
   all_goals
    rw [h2] at hC
    refine acalls_vc 15 _ tabOk mixed Tryz.func76 rfl (by kernel_rfl) rfl rfl rfl rfl fun W0 fp0 z0 => ?_
    (repeat' ((conv => whnf); first | refine NBr.yes ?_ | refine NBr.pos (by assumption) ?_ | refine NCall.eq (hO) (by first | rfl | (simp only [AV.gives, AV.give, un_partsD]; first | done | rfl)) ?_ | refine NCall.eq (hC) (by first | rfl | (simp only [AV.gives, AV.give, D.un, D.uns, un_partsD]; first | done | rfl)) ?_)); (all_goals (conv => whnf))
    all_goals (refine NEnd.eq ?_; (repeat' (first | exact leW_refl _ | refine And.intro ?_ ?_ | exact rfl)))
 ·have gi : decide ((ps.length : Int) > 0) = false := decide_eq_false (by omega)
  rw [decide_eq_false h0]
  refine acalls_vc 15 _ tabOk mixed Tryz.func76 rfl (by kernel_rfl) rfl rfl rfl rfl fun W0 fp0 z0 => ?_
  (repeat' ((conv => whnf); first | refine NBr.no ?_ | refine NBr.neg (by assumption) ?_)); (all_goals (conv => whnf))
  all_goals (refine NEnd.eq ?_; (repeat' (first | exact leW_refl _ | refine And.intro ?_ ?_ | exact rfl)))
end Go.Proofs.YtblabcopgeobgaaGreatDoor

namespace Go.Proofs.YtblabcopgeobgaaGreatDoor
open Go.RowKit
set_option maxRecDepth 100000
set_option maxHeartbeats 8000000
def partO (p : List UInt8) : List D := [bytesD true p]
theorem uns_partO (l : List (List UInt8)) : D.uns (l.flatMap partO) = l.flatMap partC := by
 induction l with
 | nil => rfl
 | cons p r ih =>
   show D.un (bytesD true p) :: D.uns (r.flatMap partO) = _
   rw [un_bytesD, ih]; rfl
structure Mu where
 oid : List UInt8
 vs : List (List UInt8)
def muC (m : Mu) : List D := [.v (.string ⟨⟨m.oid⟩⟩), partsD m.vs]
def musD (l : List Mu) : D := tabD false 2 muC l
theorem muC_uns (m : Mu) : D.uns (muC m) = muC m := by simp only [muC, D.uns, un_partsD, D.un]
theorem un_musD (l : List Mu) : (musD l).un = musD l := un_tab muC_uns false 2 l
abbrev muA (m : Mu) : AV := .agg [sx m.oid, .d (partsD m.vs)]
theorem flat_mem {p : List UInt8} : ∀ {l : List (List UInt8)}, p ∈ l → p.length ≤ l.flatten.length
 | [], h => by cases h
 | q :: r, h => by
   rw [List.flatten_cons, List.length_append]
   rcases List.mem_cons.1 h with rfl | h
   ·omega
   ·have := flat_mem h; omega
theorem attS_any (m : Mu) (hn : m.vs.length ≤ 1000000000) (hl : m.vs.flatten.length ≤ 900000000) : ACalls Tryz.prog 77 [muA m] (fun r => r = .tup [sx m.oid, .d (bytesD true (encS 0 17 true m.vs.flatten)), bv (fitsB m.vs)]) := by
 have hW := wrap_any 0 17 true m.vs (by omega) (by omega) hl hn
 have hF := fits_any m.vs hn (fun p hp => by have := flat_mem hp; omega)
 refine acalls_vc 23 _ tabOk mixed Tryz.func77 rfl (by kernel_rfl) rfl rfl rfl rfl fun W0 fp0 z0 => ?_
 (repeat' ((conv => whnf); first | refine NBr.yes ?_ | refine NCall.eq (hW) (by first | rfl | (simp only [AV.gives, AV.give, D.un, un_partsD]; first | done | rfl)) ?_ | refine NCall.eq (hF) (by first | rfl | (simp only [AV.gives, AV.give, un_partsD]; first | done | rfl)) ?_ | refine NFact.go ⟨by decide +kernel, by kernel_rfl⟩ ?_)); (all_goals (conv => whnf))
 all_goals (refine NEnd.eq ?_; (repeat' (first | exact trivial | exact leW_refl _ | refine And.intro ?_ ?_ | exact rfl)))
theorem atts_any : ACalls Tryz.prog 50 [] (fun r => r = .agg [.d (.fn 74 []), .d (.fn 77 [])]) := by
 refine acalls_vc 2 _ tabOk mixed Tryz.func50 rfl (by kernel_rfl) rfl rfl rfl rfl fun W0 fp0 z0 => ?_
 (all_goals (conv => whnf))
 all_goals (refine NEnd.eq ?_; (repeat' (first | exact leW_refl _ | refine And.intro ?_ ?_ | exact rfl)))
def muV (m : Mu) : Bool := oidV m.oid && fitsB m.vs
def muE (m : Mu) : List UInt8 := encS 0 16 true (encS 0 6 false (oidE m.oid) ++ encS 0 17 true m.vs.flatten)
abbrev mpA : AV := .agg [.d (.fn 74 []), .d (.fn 77 [])]
structure Mu.sm (m : Mu) : Prop where
 o : m.oid.length ≤ 70000
 n : m.vs.length ≤ 1000000
 v : m.vs.flatten.length ≤ 70000
def marM (l : List Mu) : AV := if l ≠ [] ∧ l.all muV = true then .tup [ownB 0 5 (encS 0 16 true (l.map muE).flatten), iv 0] else .tup [nilA, iv 8]
theorem muE_len {m : Mu} (h : m.sm) : (muE m).length ≤ 420100 := by
 have h1 := oidE_len m.oid
 have h2 := encS_len 0 6 false (oidE m.oid) (by have := h.o; omega)
 have h3 := encS_len 0 17 true m.vs.flatten (by have := h.v; omega)
 unfold muE
 have h4 := encS_len 0 16 true (encS 0 6 false (oidE m.oid) ++ encS 0 17 true m.vs.flatten) (by rw [List.length_append]; have := h.o; have := h.v; omega)
 rw [List.length_append] at h4
 have := h.o; have := h.v; omega
theorem sumE_len {l : List Mu} (h : ∀ m ∈ l, m.sm) : ((l.map muE).flatten).length ≤ l.length * 420100 := by
 induction l with
 | nil => simp
 | cons a r ih =>
   have h1 := muE_len (h a (List.mem_cons_self ..))
   have h2 := ih fun m hm => h m (List.mem_cons_of_mem _ hm)
   rw [List.map_cons, List.flatten_cons, List.length_append, List.length_cons]; omega
theorem marM_bad {l : List Mu} {i : Nat} {m : Mu} (hg : l[i]? = some m) (hv : muV m = false) : marM l = .tup [nilA, iv 8] := by
 unfold marM
 rw [if_neg]
 rintro ⟨-, h⟩
 rw [List.all_eq_true.1 h m (List.mem_of_getElem? hg)] at hv; cases hv
theorem marP_any (l : List Mu) (hl : l.length ≤ 2000) (hs : ∀ m ∈ l, m.sm) : ACalls Tryz.prog 51 [mpA, .d (musD l)] (fun r => r = marM l) := by
 refine acalls_vc 72 _ tabOk mixed Tryz.func51 rfl (by kernel_rfl) rfl rfl rfl rfl fun W0 fp0 z0 => ?_
 (all_goals (conv => whnf))
 refine NLoop.goA [.s 6 1 22] (fun i : Nat => i ≤ l.length ∧ (l.take i).all muV = true) (fun i => l.length - i) (fun i => ⟨[(2, .ptr 2 0), (6, ownT 6 1 22 partO ((l.take i).map muE)), (16, .d (musD l)), (17, iv l.length), (18, iv i)], [(2, [.d (.fn 74 []), .d (.fn 77 [])])], [(6, (((l.take i).map muE).length, 1, 22))]⟩) 0 ⟨by omega, rfl⟩ (by ((repeat' (first | exact trivial | exact leW_refl _ | refine And.intro ?_ ?_ | exact rfl)))) ?_
 rintro i ⟨hi, ha⟩
 have hml : ((l.take i).map muE).length ≤ 2000 := by rw [List.length_map, List.length_take]; omega
 by_cases hik : i < l.length
 ·have gi : decide ((i : Int) < l.length) = true := decide_eq_true (by omega)
  obtain ⟨m, hg⟩ : ∃ p, l[i]? = some p := ⟨_, List.getElem?_eq_getElem hik⟩
  obtain ⟨o1, o2, o3⟩ := hs m (List.mem_of_getElem? hg)
  have hS := attS_any m (by omega) (by omega)
  have hO := oidEnc_any m.oid (by omega)
  cases hv : muV m
  ·rw [marM_bad hg hv]
   cases hf : fitsB m.vs
   ·rw [hf] at hS
    (repeat' ((conv => whnf); first | refine NBr.yes ?_ | refine NBr.pos (by assumption) ?_ | refine NIdx.tab (fun _ => rfl) hg ?_ | refine NCall.eq (hS) (by first | rfl | (simp only [AV.gives, AV.give, D.un, List.nil_append, List.cons_append, un_partsD]; first | done | rfl)) ?_ | refine NCall.eq (hO) (by rfl) ?_)); (all_goals (conv => whnf))
    all_goals (refine NEnd.eq ?_; (repeat' (first | exact leW_refl _ | refine And.intro ?_ ?_ | exact rfl)))
   ·have h8 : oidC m.oid = 8 := by
     unfold muV oidV at hv
     unfold oidC
     cases h : arcsS m.oid with
     | none => rfl
     | some a => rw [h, hf] at hv; cases hv
    rw [hf] at hS
    rw [h8] at hO
    (repeat' ((conv => whnf); first | refine NBr.yes ?_ | refine NBr.no ?_ | refine NBr.pos (by assumption) ?_ | refine NIdx.tab (fun _ => rfl) hg ?_ | refine NCall.eq (hS) (by first | rfl | (simp only [AV.gives, AV.give, D.un, List.nil_append, List.cons_append, un_partsD]; first | done | rfl)) ?_ | refine NCall.eq (hO) (by rfl) ?_)); (all_goals (conv => whnf))
    all_goals (refine NEnd.eq ?_; (repeat' (first | exact leW_refl _ | refine And.intro ?_ ?_ | exact rfl)))
  ·have hf : fitsB m.vs = true := by unfold muV at hv; simp at hv; exact hv.2
   have h8 : oidC m.oid = 0 := (oidV_code m.oid).1 (by unfold muV at hv; simp at hv; exact hv.1)
   rw [hf] at hS
   rw [h8] at hO
   have k1 := oidE_len m.oid
   have k2 := encS_len 0 6 false (oidE m.oid) (by omega)
   have k3 := encS_len 0 17 true m.vs.flatten (by omega)
   have hW := wrap_any 0 6 false [oidE m.oid] (by omega) (by omega) (by simp; omega) (by simp)
   rw [show [oidE m.oid].flatten = oidE m.oid by simp] at hW
   have hQ := seq_any [encS 0 6 false (oidE m.oid), encS 0 17 true m.vs.flatten] (by simp; omega) (by simp)
   rw [show encS 0 16 true [encS 0 6 false (oidE m.oid), encS 0 17 true m.vs.flatten].flatten = muE m by simp [muE]] at hQ
   have hs' : (l.take (i + 1)).map muE = (l.take i).map muE ++ [muE m] := by
    rw [List.take_succ_eq_append_getElem hik, List.map_append]
    have hg' := List.getElem?_eq_getElem hik
    rw [hg] at hg'; cases hg'; rfl
   (repeat' ((conv => whnf); first | refine NBr.no ?_ | refine NBr.pos (by assumption) ?_ | refine NIdx.tab (fun _ => rfl) hg ?_ | refine NCall.eq (hS) (by first | rfl | (simp only [AV.gives, AV.give, D.un, List.nil_append, List.cons_append, un_partsD]; first | done | rfl)) ?_ | refine NCall.eq (hO) (by rfl) ?_ | refine NCall.eq (hW) (by first | rfl | (simp only [AV.gives, AV.give, D.un, D.uns, un_bytesD]; first | done | rfl)) ?_ | refine NCall.eq (hQ) (by first | rfl | (simp only [AV.gives, AV.give, D.un, D.uns, un_bytesD, uns_bytesL]; first | done | rfl)) ?_ | refine NApp.one partO (muE m) ?_ | (with_reducible refine NInt.i64 ?_))); (all_goals (conv => whnf))
   refine ⟨i + 1, ⟨by omega, all_take1 muV hg hv ha⟩, by omega, ?_⟩
   rw [hs']
   ((repeat' (first | exact trivial | exact leW_refl _ | refine And.intro ?_ ?_ | exact rfl)))
 ·have gi : decide ((i : Int) < l.length) = false := decide_eq_false (by omega)
  obtain rfl : i = l.length := by omega
  rw [List.take_length] at ha ⊢
  have hq := sumE_len hs
  have hS := seq_any (l.map muE) (by omega) (by rw [List.length_map]; omega)
  by_cases h0 : l = []
  ·subst h0
   (repeat' ((conv => whnf); first | refine NBr.yes ?_ | refine NBr.no ?_)); (all_goals (conv => whnf))
   all_goals (refine NEnd.eq ?_; (repeat' (first | exact leW_refl _ | refine And.intro ?_ ?_ | exact rfl)))
  ·have gj : (((l.map muE).length : Int) == 0) = false := by rw [beq_eq_false_iff_ne, List.length_map]; intro h; exact h0 (List.eq_nil_of_length_eq_zero (by omega))
   rw [show marM l = .tup [ownB 0 5 (encS 0 16 true (l.map muE).flatten), iv 0] by unfold marM; rw [if_pos ⟨h0, ha⟩]]
   (repeat' ((conv => whnf); first | refine NBr.neg (by assumption) ?_ | refine NCall.eq (hS) (by first | rfl | (simp only [AV.gives, AV.give, uns_partO]; first | done | rfl)) ?_)); (all_goals (conv => whnf))
   all_goals (refine NEnd.eq ?_; (repeat' (first | exact trivial | exact leW_refl _ | refine And.intro ?_ ?_ | exact rfl)))
end Go.Proofs.YtblabcopgeobgaaGreatDoor

namespace Go.Proofs.YtblabcopgeobgaaGreatDoor
open Go.RowKit
set_option maxRecDepth 100000
set_option maxHeartbeats 8000000
theorem marMu_any (l : List Mu) (hl : l.length ≤ 2000) (hs : ∀ m ∈ l, m.sm) : ACalls Tryz.prog 30 [.d (musD l)] (fun r => r = marM l) := by
 have hA := atts_any
 have hP := marP_any l hl hs
 unfold marM at hP ⊢
 by_cases h : l ≠ [] ∧ l.all muV = true
 all_goals
  first | rw [if_pos h] at hP ⊢ | rw [if_neg h] at hP ⊢
  refine acalls_vc 9 _ tabOk mixed Tryz.func30 rfl (by kernel_rfl) rfl rfl rfl rfl fun W0 fp0 z0 => ?_
  (repeat' ((conv => whnf); first | refine NCall.eq (hA) (by rfl) ?_ | refine NCall.eq (hP) (by first | rfl | (simp only [AV.gives, AV.give, D.un, D.uns, un_musD]; first | done | rfl)) ?_)); (all_goals (conv => whnf))
  all_goals (refine NEnd.eq ?_; (repeat' (first | exact trivial | exact leW_refl _ | refine And.intro ?_ ?_ | exact rfl)))
theorem valMu_any (l : List Mu) (hl : l.length ≤ 2000) (hs : ∀ m ∈ l, m.sm) : ACalls Tryz.prog 34 [.d (musD l)] (fun r => r = bv (!l.isEmpty && l.all muV)) := by
 have hP := marMu_any l hl hs
 unfold marM at hP
 by_cases h : l ≠ [] ∧ l.all muV = true
 ·rw [if_pos h] at hP
  have : (!l.isEmpty && l.all muV) = true := by rw [h.2, Bool.and_true]; cases l with | nil => exact absurd rfl h.1 | cons _ _ => rfl
  rw [this]
  refine acalls_vc 12 _ tabOk mixed Tryz.func34 rfl (by kernel_rfl) rfl rfl rfl rfl fun W0 fp0 z0 => ?_
  (repeat' ((conv => whnf); refine NCall.eq (hP) (by first | rfl | (simp only [AV.gives, AV.give, un_musD]; first | done | rfl)) ?_)); (all_goals (conv => whnf))
  all_goals (refine NEnd.eq ?_; (repeat' (first | exact leW_refl _ | refine And.intro ?_ ?_ | exact rfl)))
 ·rw [if_neg h] at hP
  have : (!l.isEmpty && l.all muV) = false := by
   cases l with
   | nil => rfl
   | cons a r =>
     cases hh : (a :: r).all muV
     ·rfl
     ·exact absurd ⟨by simp, hh⟩ h
  rw [this]
  refine acalls_vc 12 _ tabOk mixed Tryz.func34 rfl (by kernel_rfl) rfl rfl rfl rfl fun W0 fp0 z0 => ?_
  (repeat' ((conv => whnf); refine NCall.eq (hP) (by first | rfl | (simp only [AV.gives, AV.give, un_musD]; first | done | rfl)) ?_)); (all_goals (conv => whnf))
  all_goals (refine NEnd.eq ?_; (repeat' (first | exact leW_refl _ | refine And.intro ?_ ?_ | exact rfl)))
theorem txOk_x : TxOk 6 [120] [134, 1, 120] := by
 refine ⟨.inr (.inr rfl), by decide, by decide +kernel, ?_, ⟨2, by decide, by kernel_rfl, by decide +kernel⟩⟩
 rw [encS_small _ _ _ _ (by decide +kernel)]
 decide +kernel
theorem desc_any : ACalls Tryz.prog 69 [] (fun r => r = .agg [.d (.fn 95 []), .d (.fn 97 [])]) := by
 refine acalls_vc 2 _ tabOk mixed Tryz.func69 rfl (by kernel_rfl) rfl rfl rfl rfl fun W0 fp0 z0 => ?_
 (all_goals (conv => whnf))
 all_goals (refine NEnd.eq ?_; (repeat' (first | exact leW_refl _ | refine And.intro ?_ ?_ | exact rfl)))
abbrev adA : AV := .agg [.d (.fn 95 []), .d (.fn 97 [])]
theorem descS_txt {n : Nat} {m l b : List UInt8} (h : TxOk n l b) : ACalls Tryz.prog 97 [.agg ((accC ⟨m, gnV n l⟩).map AV.d)] (fun r => r = .tup [sx m, .d (bytesD true b), bv true]) := by
 have h1 : ACalls Tryz.prog 73 [gnA (gnV n l)] (fun r => r = .tup [ownB 0 5 b, iv 0]) := marshal_txt h
 refine acalls_vc 18 _ tabOk mixed Tryz.func97 rfl (by kernel_rfl) rfl rfl rfl rfl fun W0 fp0 z0 => ?_
 (repeat' ((conv => whnf); refine NCall.eq (h1) (by rfl) ?_)); (all_goals (conv => whnf))
 all_goals (refine NEnd.eq ?_; (repeat' (first | exact trivial | exact leW_refl _ | refine And.intro ?_ ?_ | exact rfl)))
end Go.Proofs.YtblabcopgeobgaaGreatDoor

namespace Go.Proofs.YtblabcopgeobgaaGreatDoor
open Go.ChangeShapes Go.WideShapes Go.ChangeAt Go.RowKit Go.Joins
end Go.Proofs.YtblabcopgeobgaaGreatDoor

namespace Go.Proofs.YtblabcopgeobgaaGreatDoor
open Go.RowKit
set_option maxRecDepth 100000
set_option maxHeartbeats 8000000
def o123 : List UInt8 := [49, 46, 50, 46, 51]
theorem marA_one : ACalls Tryz.prog 70 [adA, .d (accsD [⟨o123, gnV 6 [120]⟩])] (fun r => r = .tup [ownB 0 5 [48, 9, 48, 7, 6, 2, 42, 3, 134, 1, 120], iv 0]) := by
 have hS : ACalls Tryz.prog 97 [.agg ((accC ⟨o123, gnV 6 [120]⟩).map AV.d)] (fun r => r = .tup [sx o123, .d (bytesD true [134, 1, 120]), bv true]) := descS_txt (m := o123) txOk_x
 have hO := oidEnc_any o123 (by decide)
 rw [show oidE o123 = [42, 3] by decide +kernel, show oidC o123 = 0 by decide +kernel] at hO
 have hW := wrap_any 0 6 false [[42, 3]] (by omega) (by omega) (by decide) (by decide)
 rw [show encS 0 6 false [[42, 3]].flatten = [6, 2, 42, 3] by rw [encS_small 0 6 false _ (by decide)]; decide] at hW
 have hQ := seq_any [[6, 2, 42, 3], [134, 1, 120]] (by decide) (by decide)
 rw [show encS 0 16 true [[6, 2, 42, 3], [134, 1, 120]].flatten = [48, 7, 6, 2, 42, 3, 134, 1, 120] by rw [encS_small 0 16 true _ (by decide)]; decide] at hQ
 have hQ2 := seq_any [[48, 7, 6, 2, 42, 3, 134, 1, 120]] (by decide) (by decide)
 rw [show encS 0 16 true [[48, 7, 6, 2, 42, 3, 134, 1, 120]].flatten = [48, 9, 48, 7, 6, 2, 42, 3, 134, 1, 120] by rw [encS_small 0 16 true _ (by decide)]; decide] at hQ2
 have hg0 : ([⟨o123, gnV 6 [120]⟩] : List Acc)[0]? = some ⟨o123, gnV 6 [120]⟩ := rfl
 refine acalls_vc 72 _ tabOk mixed Tryz.func70 rfl (by kernel_rfl) rfl rfl rfl rfl fun W0 fp0 z0 => ?_
 (all_goals (conv => whnf))
 refine NLoop.rounds 2 ?_
 have hg00 : ([⟨o123, gnV 6 [120]⟩] : List Acc)[0]? = some ⟨o123, gnV 6 [120]⟩ := rfl
 (repeat' ((conv => whnf); first | refine NBr.yes ?_ | refine NBr.no ?_ | refine NIdx.tab (fun _ => rfl) hg0 ?_ | refine NCall.eq (hS) (by rfl) ?_ | refine NCall.eq (hO) (by rfl) ?_ | refine NCall.eq (hW) (by rfl) ?_ | refine NCall.eq (hQ) (by rfl) ?_ | refine NCall.eq (hQ2) (by rfl) ?_ | (refine Or.inr ?_) | (refine NApp.at 1 _ ?_) | (with_reducible refine NInt.i64 ?_))); (all_goals (conv => whnf))
 all_goals (refine NEnd.eq ?_; (repeat' (first | exact trivial | exact leW_refl _ | refine And.intro ?_ ?_ | exact rfl)))
theorem marAcc_one : ACalls Tryz.prog 44 [.d (accsD [⟨o123, gnV 6 [120]⟩])] (fun r => r = .tup [ownB 0 5 [48, 9, 48, 7, 6, 2, 42, 3, 134, 1, 120], iv 0]) := by
 have hA := desc_any
 have hP := marA_one
 refine acalls_vc 9 _ tabOk mixed Tryz.func44 rfl (by kernel_rfl) rfl rfl rfl rfl fun W0 fp0 z0 => ?_
 (repeat' ((conv => whnf); first | refine NCall.eq (hA) (by rfl) ?_ | refine NCall.eq (hP) (by rfl) ?_)); (all_goals (conv => whnf))
 all_goals (refine NEnd.eq ?_; (repeat' (first | exact trivial | exact leW_refl _ | refine And.intro ?_ ?_ | exact rfl)))
theorem marMu_one : ACalls Tryz.prog 30 [.d (musD [⟨o123, [[5, 0]]⟩])] (fun r => r = .tup [ownB 0 5 [48, 10, 48, 8, 6, 2, 42, 3, 49, 2, 5, 0], iv 0]) := by
 have h := marMu_any [⟨o123, [[5, 0]]⟩] (by decide) (fun m hm => by
  obtain rfl := List.mem_singleton.1 hm
  exact ⟨by decide, by decide, by decide⟩)
 have hv : ([⟨o123, [[5, 0]]⟩] : List Mu).all muV = true := by decide +kernel
 rw [marM, if_pos ⟨by simp, hv⟩] at h
 have e : encS 0 16 true (([⟨o123, [[5, 0]]⟩] : List Mu).map muE).flatten = [48, 10, 48, 8, 6, 2, 42, 3, 49, 2, 5, 0] := by
  have e1 : muE ⟨o123, [[5, 0]]⟩ = [48, 8, 6, 2, 42, 3, 49, 2, 5, 0] := by
   unfold muE
   rw [show oidE (Mu.mk o123 [[5, 0]]).oid = [42, 3] by decide +kernel, encS_small 0 6 false _ (by decide), encS_small 0 17 true _ (by decide), encS_small 0 16 true _ (by decide)]; decide
  rw [List.map_cons, List.map_nil, e1, encS_small 0 16 true _ (by decide)]; decide
 rwa [e] at h
theorem awake20 : ACalls Tryz.prog 18 [] (fun r => r = bv true) := by
 have m1 := marAcc_one
 have m2 := marMu_one
 have b1 := bytesEq_any false false [48, 9, 48, 7, 6, 2, 42, 3, 134, 1, 120] [48, 9, 48, 7, 6, 2, 42, 3, 134, 1, 120] (by decide) (by decide)
 have b2 := bytesEq_any false false [48, 10, 48, 8, 6, 2, 42, 3, 49, 2, 5, 0] [48, 10, 48, 8, 6, 2, 42, 3, 49, 2, 5, 0] (by decide) (by decide)
 rw [beq_self_eq_true] at b1 b2
 refine acalls_vc 36 _ tabOk mixed Tryz.func18 rfl (by kernel_rfl) rfl rfl rfl rfl fun W0 fp0 z0 => ?_
 (repeat' ((conv => whnf); first | refine NBr.yes ?_ | (refine NCall.le (m1) ?_ ?_; focus ((repeat' (first | exact trivial | refine And.intro ?_ ?_ | exact rfl | exact Or.inr rfl | refine Or.inr ?_)); done)) | (refine NCall.le (m2) ?_ ?_; focus ((repeat' (first | exact trivial | exact leW_refl _ | refine And.intro ?_ ?_)); done)) | (refine NCall.le (b1) ?_ ?_; focus ((repeat' (first | exact trivial | exact leW_refl _ | refine And.intro ?_ ?_ | exact rfl | exact Or.inr rfl | refine Or.inr ?_)); done)) | (refine NCall.le (b2) ?_ ?_; focus ((repeat' (first | exact trivial | exact leW_refl _ | refine And.intro ?_ ?_)); done)))); (all_goals (conv => whnf))
 all_goals (refine NEnd.eq ?_; (repeat' (first | exact leW_refl _ | refine And.intro ?_ ?_ | exact rfl)))
end Go.Proofs.YtblabcopgeobgaaGreatDoor
