/- MM: the texts Link MulR MulP MulQ MulS MulC MulT MulL MulI MulJ MulK MulW MulX MulY LawMP, one behind the other. No condition but what each lemma says. -/
import Derived.Test.YtblabcopgeobgaaGreatDoorMI
import Derived.Test.YtblabcopgeobgaaGreatDoorMK
import Derived.Test.YtblabcopgeobgaaGreatDoorMH
import Derived.Test.YtblabcopgeobgaaGreatDoorMJ
namespace Go.Proofs.YtblabcopgeobgaaGreatDoor
open Go.RowKit
theorem joinS_code (x : S) (r : SR) : (joinS x r).code = r.code := by
 by_cases h : r.code = 0
 ·rw [joinS_ok h, h]
 ·rw [joinS_bad h]
theorem joinT_code (sz : Nat) (x : Tr) (r : TR) : (joinT sz x r).code = r.code := by
 by_cases h : r.code = 0
 ·rw [joinT_ok h, h]
 ·rw [joinT_bad h]; rfl
def Agr (rd : Nat → SR) (rt : List UInt8 → TR) (b : List UInt8) (en : Nat) : Prop := ∀ p, p ≤ en → (rd p).code = (rt ((b.drop p).take (en - p))).code ∧ ∀ s t sz, rd p = ⟨[s], 0, 0⟩ → rt ((b.drop p).take (en - p)) = ⟨[t], sz, 0, 0⟩ → s.stop = p + sz
theorem kids_link {rd : Nat → SR} {rt : List UInt8 → TR} {b : List UInt8} {en : Nat} (hen : en ≤ b.length) (hs : Rds rd en) (ht : RdT rt) (ha : Agr rd rt b en) : ∀ (f p : Nat), p ≤ en → (kidsF rd en f p).code = (kT rt f ((b.drop p).take (en - p))).code := by
 intro f
 induction f with
 | zero => intro p _; rfl
 | succ f ih =>
   intro p hp
   have hl : ((b.drop p).take (en - p)).length = en - p := by rw [List.length_take, List.length_drop]; omega
   by_cases h3 : p < en
   ·have h0 : ((b.drop p).take (en - p)).length ≠ 0 := by omega
    obtain ⟨a1, a2⟩ := ha p hp
    by_cases h4 : (rd p).code = 0
    ·obtain ⟨s, e1, e2, e3⟩ := (hs p hp).1 h4
     obtain ⟨t, sz, q1, q2, q3⟩ := (ht _).1 (a1 ▸ h4)
     have hst := a2 s t sz e1 q1
     rw [kidsF_yes h3 e1, kT_yes h0 q1, joinS_code, joinT_code, hst, ih (p + sz) (by omega), List.drop_take, List.drop_drop, show en - p - sz = en - (p + sz) by omega]
    ·rw [kidsF_no h3 h4, kT_no h0 (a1 ▸ h4)]; exact a1
   ·rw [kidsF_out h3, kT_end (by omega)]
theorem read_link (b : List UInt8) : ∀ (d en : Nat), en ≤ b.length → Agr (fun p => readS b d p en) (rT d) b en := by
 intro d
 induction d with
 | zero => intro en _ p _; exact ⟨rfl, fun s t sz h => by simp [readS, SR.bad] at h⟩
 | succ d ih =>
   intro en hen p hp
   have hl : ((b.drop p).take (en - p)).length = en - p := by rw [List.length_take, List.length_drop]; omega
   have hB := rhS_bounds ((b.drop p).take (en - p))
   rw [hl] at hB
   simp only [readS, rT]
   generalize hh : rhS ((b.drop p).take (en - p)) = h at hB ⊢
   obtain ⟨c1, c2, c3, c4, c5, c6, c7⟩ := hB
   unfold readH rTH
   by_cases k1 : h.code ≠ 0
   ·rw [if_pos k1, if_pos k1]
    exact ⟨rfl, fun s t sz h' => by simp [SR.bad] at h'⟩
   rw [if_neg k1, if_neg k1, hl]
   by_cases k2 : en - p < h.size + h.len
   ·rw [if_pos k2, if_pos k2]
    exact ⟨rfl, fun s t sz h' => by simp [SR.bad] at h'⟩
   rw [if_neg k2, if_neg k2]
   by_cases k3 : h.k = false
   ·rw [if_pos k3, if_pos k3]
    refine ⟨rfl, fun s t sz h1 h2 => ?_⟩
    simp only [SR.mk.injEq, TR.mk.injEq, List.cons.injEq, and_true] at h1 h2
    rw [← h1, ← h2.2]; simp only [S.stop]; omega
   rw [if_neg k3, if_neg k3]
   have e1 : (((b.drop p).take (en - p)).drop h.size).take h.len = (b.drop (p + h.size)).take (p + h.size + h.len - (p + h.size)) := by
    rw [List.drop_take, List.drop_drop, List.take_take]
    congr 1; omega
   have hK : (kidsS (readS b d) (p + h.size) (p + h.size + h.len)).code = (kidsT (rT d) ((((b.drop p).take (en - p)).drop h.size).take h.len)).code := by
    rw [e1, kidsT, show ((b.drop (p + h.size)).take (p + h.size + h.len - (p + h.size))).length = p + h.size + h.len - (p + h.size) by rw [List.length_take, List.length_drop]; omega]
    exact kids_link (by omega) (readS_rds b d _ (by omega)) (rT_rd d) (ih (p + h.size + h.len) (by omega)) _ (p + h.size) (by omega)
   by_cases k4 : (kidsS (readS b d) (p + h.size) (p + h.size + h.len)).code ≠ 0
   ·rw [if_pos k4, if_pos (hK ▸ k4)]
    exact ⟨hK, fun s t sz h' => by simp [SR.bad] at h'⟩
   ·rw [if_neg k4, if_neg (hK ▸ k4)]
    refine ⟨rfl, fun s t sz h1 h2 => ?_⟩
    simp only [SR.mk.injEq, TR.mk.injEq, List.cons.injEq, and_true] at h1 h2
    rw [← h1, ← h2.2]; simp only [S.stop]; omega
theorem whole_link (b : List UInt8) : (wholeS b).code = (withinT 16 b).code := by
 have hA := read_link b 16 b.length (Nat.le_refl _) 0 (Nat.zero_le _)
 rw [List.drop_zero, Nat.sub_zero, List.take_length] at hA
 obtain ⟨a1, a2⟩ := hA
 have hF := readS_rds b 16 b.length (by omega) 0 (by omega)
 dsimp only at hF a1 a2
 have hT := rT_rd 16 b
 unfold wholeS withinT
 by_cases h : (readS b 16 0 b.length).code = 0
 ·obtain ⟨s, e1, e2, e3⟩ := hF.1 h
  obtain ⟨t, sz, q1, q2, q3⟩ := hT.1 (a1 ▸ h)
  have hst := a2 s t sz e1 q1
  rw [e1, q1]
  by_cases h3 : s.stop < b.length
  ·rw [wholeR_long h3, wholeT_long (by omega)]; rfl
  ·rw [wholeR_ok h3, wholeT_ok (by omega)]
 ·have h' := hT.2 (a1 ▸ h)
  have h1 : readS b 16 0 b.length = ⟨[], (readS b 16 0 b.length).code, (readS b 16 0 b.length).off⟩ := by
   have := (hF.2 h).2
   generalize readS b 16 0 b.length = r at this ⊢
   obtain ⟨l, c, o⟩ := r
   simp only at this; rw [this]
  have h2 : rT 16 b = ⟨[], 0, (rT 16 b).code, (rT 16 b).off⟩ := by
   have h5 := h'.2.1; have h6 := h'.2.2.1
   generalize rT 16 b = r at h5 h6 ⊢
   obtain ⟨l, z, c, o⟩ := r
   simp only at h5 h6; rw [h5, h6]
  rw [h1, h2, wholeR_bad, wholeT_bad]
  simp only [SR.bad, TR.bad]
  rw [a1]
end Go.Proofs.YtblabcopgeobgaaGreatDoor

namespace Go.Proofs.YtblabcopgeobgaaGreatDoor
open Go.RowKit
set_option maxRecDepth 100000
set_option maxHeartbeats 8000000
theorem open_eq (b : List UInt8) : openI b = openB b := by unfold openI openB; rw [whole_link]
theorem rOpenI_any (b : List UInt8) (hb : b.length ≤ 1000000000) : ACalls Tryz.prog 58 [.d (bytesD false b)] (fun r => r = bv (openI b)) := by rw [open_eq]; exact rOpen_any b hb
theorem muV_and (m : Mu) : muV m = (oidV m.oid && (decide (m.vs.length > 0) && ordB m.vs && m.vs.all openI)) := rfl
theorem rVal_any (l : List Mu) (hl : l.length ≤ 100000) (hs : ∀ m ∈ l, m.sm) : ACalls Tryz.prog 35 [.d (musD l)] (fun r => r = bv (!l.isEmpty && l.all muV)) := by
 refine acalls_vc 59 _ tabOk mixed Tryz.func35 rfl (by kernel_rfl) rfl rfl rfl rfl fun W0 fp0 z0 => ?_
 (all_goals (conv => whnf))
 refine NLoop.go (fun i : Nat => i ≤ l.length ∧ (l.take i).all muV = true) (fun i => l.length - i) (fun i => ⟨[(0, .d (musD l)), (3, iv i)], [], []⟩) 0 ⟨by omega, rfl⟩ (by ((repeat' (first | exact trivial | exact leW_refl _ | refine And.intro ?_ ?_)))) ?_
 rintro i ⟨hi, ha⟩
 by_cases hik : i < l.length
 ·have gi : decide ((i : Int) < l.length) = true := decide_eq_true (by omega)
  obtain ⟨m, hg⟩ : ∃ p, l[i]? = some p := ⟨_, List.getElem?_eq_getElem hik⟩
  obtain ⟨o1, o2, o3⟩ := hs m (List.mem_of_getElem? hg)
  have hV := rOidValid_any m.oid (by omega)
  have hO := rOrdered_any m.vs (by omega) (fun p hp => by have := flat_mem hp; omega)
  have bad : muV m = false → (!l.isEmpty && l.all muV) = false := fun h => by
   have : l.all muV = false := by
    cases hh : l.all muV with
    | false => rfl
    | true => rw [List.all_eq_true.1 hh m (List.mem_of_getElem? hg)] at h; cases h
   rw [this, Bool.and_false]
  cases h1 : oidV m.oid
  ·rw [h1] at hV
   rw [bad (by rw [muV_and, h1]; rfl)]
   (repeat' ((conv => whnf); first | refine NBr.yes ?_ | refine NBr.pos (by assumption) ?_ | refine NIdx.tab (fun _ => rfl) hg ?_ | refine NCall.eq (hV) (by rfl) ?_)); (all_goals (conv => whnf))
   all_goals (refine NEnd.eq ?_; (repeat' (first | exact leW_refl _ | refine And.intro ?_ ?_ | exact rfl)))
  rw [h1] at hV
  by_cases h2 : m.vs.length > 0
  case neg =>
   have g2 : ((m.vs.length : Int) == 0) = true := by rw [beq_iff_eq]; omega
   rw [bad (by rw [muV_and, decide_eq_false h2]; simp)]
   (repeat' ((conv => whnf); first | refine NBr.yes ?_ | refine NBr.no ?_ | refine NBr.pos (by assumption) ?_ | refine NIdx.tab (fun _ => rfl) hg ?_ | refine NCall.eq (hV) (by rfl) ?_)); (all_goals (conv => whnf))
   all_goals (refine NEnd.eq ?_; (repeat' (first | exact leW_refl _ | refine And.intro ?_ ?_ | exact rfl)))
  have g2 : ((m.vs.length : Int) == 0) = false := by rw [beq_eq_false_iff_ne]; omega
  cases h3 : ordB m.vs
  ·rw [h3] at hO
   rw [bad (by rw [muV_and, h3]; simp)]
   (repeat' ((conv => whnf); first | refine NBr.yes ?_ | refine NBr.no ?_ | refine NBr.pos (by assumption) ?_ | refine NBr.neg (by assumption) ?_ | refine NIdx.tab (fun _ => rfl) hg ?_ | refine NCall.eq (hV) (by rfl) ?_ | refine NCall.eq (hO) (by first | rfl | (simp only [AV.gives, AV.give, un_partsD]; first | done | rfl)) ?_)); (all_goals (conv => whnf))
   all_goals (refine NEnd.eq ?_; (repeat' (first | exact leW_refl _ | refine And.intro ?_ ?_ | exact rfl)))
  rw [h3] at hO
  (repeat' ((conv => whnf); first | refine NBr.no ?_ | refine NBr.pos (by assumption) ?_ | refine NBr.neg (by assumption) ?_ | refine NIdx.tab (fun _ => rfl) hg ?_ | refine NCall.eq (hV) (by rfl) ?_ | refine NCall.eq (hO) (by first | rfl | (simp only [AV.gives, AV.give, un_partsD]; first | done | rfl)) ?_)); (all_goals (conv => whnf))
  refine NLoop.go (fun k : Nat => k ≤ m.vs.length ∧ (m.vs.take k).all openI = true) (fun k => m.vs.length - k) (fun k => ⟨[(0, .d (musD l)), (3, iv i), (4, iv k)], [], []⟩) 0 ⟨by omega, rfl⟩ (by ((repeat' (first | exact trivial | exact leW_refl _ | refine And.intro ?_ ?_)))) ?_
  rintro k ⟨hk, hka⟩
  by_cases hkk : k < m.vs.length
  ·have gk : decide ((k : Int) < m.vs.length) = true := decide_eq_true (by omega)
   obtain ⟨b, hgb⟩ : ∃ p, m.vs[k]? = some p := ⟨_, List.getElem?_eq_getElem hkk⟩
   have hP := rOpenI_any b (by have := flat_mem (List.mem_of_getElem? hgb); omega)
   cases h4 : openI b
   ·rw [h4] at hP
    rw [bad (by
     have : m.vs.all openI = false := by
      cases hh : m.vs.all openI with
      | false => rfl
      | true => rw [List.all_eq_true.1 hh b (List.mem_of_getElem? hgb)] at h4; cases h4
     rw [muV_and, this]; simp)]
    (repeat' ((conv => whnf); first | refine NBr.yes ?_ | refine NBr.pos (by assumption) ?_ | refine NIdx.tab (fun _ => rfl) hg ?_ | refine NIdx.tab (fun _ => rfl) hgb ?_ | refine NCall.eq (hP) (by first | rfl | (simp only [AV.gives, AV.give, un_bytesD]; first | done | rfl)) ?_)); (all_goals (conv => whnf))
    all_goals (refine NEnd.eq ?_; (repeat' (first | exact leW_refl _ | refine And.intro ?_ ?_ | exact rfl)))
   ·rw [h4] at hP
    (repeat' ((conv => whnf); first | refine NBr.no ?_ | refine NBr.pos (by assumption) ?_ | refine NIdx.tab (fun _ => rfl) hg ?_ | refine NIdx.tab (fun _ => rfl) hgb ?_ | refine NCall.eq (hP) (by first | rfl | (simp only [AV.gives, AV.give, un_bytesD]; first | done | rfl)) ?_ | (with_reducible refine NInt.i64 ?_))); (all_goals (conv => whnf))
    refine ⟨k + 1, ⟨by omega, all_take1 openI hgb h4 hka⟩, by omega, ?_⟩
    ((repeat' (first | exact trivial | exact leW_refl _ | refine And.intro ?_ ?_)))
  ·have gk : decide ((k : Int) < m.vs.length) = false := decide_eq_false (by omega)
   obtain rfl : k = m.vs.length := by omega
   rw [List.take_length] at hka
   have hv : muV m = true := by rw [muV_and, h1, h3, hka, decide_eq_true h2]; rfl
   (repeat' ((conv => whnf); first | refine NBr.neg (by assumption) ?_ | refine NIdx.tab (fun _ => rfl) hg ?_ | (with_reducible refine NInt.i64 ?_))); (all_goals (conv => whnf))
   refine ⟨i + 1, ⟨by omega, all_take1 muV hg hv ha⟩, by omega, ?_⟩
   ((repeat' (first | exact trivial | exact leW_refl _ | refine And.intro ?_ ?_)))
 ·have gi : decide ((i : Int) < l.length) = false := decide_eq_false (by omega)
  obtain rfl : i = l.length := by omega
  rw [List.take_length] at ha
  rw [ha, Bool.and_true]
  cases l with
  | nil =>
    (repeat' ((conv => whnf); refine NBr.no ?_)); (all_goals (conv => whnf))
    all_goals (refine NEnd.eq ?_; (repeat' (first | exact leW_refl _ | refine And.intro ?_ ?_ | exact rfl)))
  | cons a r =>
    have g5 : decide (((a :: r).length : Int) > 0) = true := decide_eq_true (by rw [List.length_cons]; omega)
    (repeat' ((conv => whnf); refine NBr.neg (by assumption) ?_)); (all_goals (conv => whnf))
    all_goals (refine NEnd.eq ?_; (repeat' (first | refine And.intro ?_ ?_ | exact rfl)); (all_goals (conv => whnf)))
    all_goals exact g5
theorem rObj_eq (s : List UInt8) : objS s = encS 0 6 false (oidE s) := rfl
theorem rMar_any (l : List Mu) (hl : l.length ≤ 2000) (hs : ∀ m ∈ l, m.sm) : ACalls Tryz.prog 33 [.d (musD l)] (fun r => r = marM l) := by
 have hV := rVal_any l (by omega) hs
 unfold marM
 by_cases h0 : l ≠ [] ∧ l.all muV = true
 ·rw [if_pos h0]
  have : (!l.isEmpty && l.all muV) = true := by rw [h0.2, Bool.and_true]; cases l with | nil => exact absurd rfl h0.1 | cons _ _ => rfl
  rw [this] at hV
  have hq := sumE_len hs
  have hS := rPutP_any 48 (l.map muE) (by rw [List.length_map]; omega) (by omega)
  have e48 : putS 48 (l.map muE).flatten = encS 0 16 true (l.map muE).flatten := rfl
  rw [e48] at hS
  refine acalls_vc 34 _ tabOk mixed Tryz.func33 rfl (by kernel_rfl) rfl rfl rfl rfl fun W0 fp0 z0 => ?_
  (repeat' ((conv => whnf); first | refine NBr.no ?_ | refine NCall.eq (hV) (by first | rfl | (simp only [AV.gives, AV.give, un_musD]; first | done | rfl)) ?_)); (all_goals (conv => whnf))
  refine NLoop.goA [.s 4 1 22] (fun i : Nat => i ≤ l.length) (fun i => l.length - i) (fun i => ⟨[(0, .d (musD l)), (4, ownT 4 1 22 partO ((l.take i).map muE)), (5, iv i)], [], [(4, (((l.take i).map muE).length, 1, 22))]⟩) 0 (by omega) (by ((repeat' (first | exact trivial | exact leW_refl _ | refine And.intro ?_ ?_ | exact rfl)))) ?_
  rintro i hi
  have hml : ((l.take i).map muE).length ≤ 2000 := by rw [List.length_map, List.length_take]; omega
  by_cases hik : i < l.length
  ·have gi : decide ((i : Int) < l.length) = true := decide_eq_true (by omega)
   obtain ⟨m, hg⟩ : ∃ p, l[i]? = some p := ⟨_, List.getElem?_eq_getElem hik⟩
   obtain ⟨o1, o2, o3⟩ := hs m (List.mem_of_getElem? hg)
   have k1 := oidE_len m.oid
   have k2 := encS_len 0 6 false (oidE m.oid) (by omega)
   have k3 := encS_len 0 17 true m.vs.flatten (by omega)
   have hO := object_any m.oid (by omega)
   rw [rObj_eq] at hO
   have hW := rPutP_any 49 m.vs (by omega) (by omega)
   have e49 : putS 49 m.vs.flatten = encS 0 17 true m.vs.flatten := rfl
   rw [e49] at hW
   have hQ := rPutP_any 48 [encS 0 6 false (oidE m.oid), encS 0 17 true m.vs.flatten] (by simp) (by simp; omega)
   rw [show putS 48 [encS 0 6 false (oidE m.oid), encS 0 17 true m.vs.flatten].flatten = muE m by unfold muE; simp; rfl] at hQ
   have hs' : (l.take (i + 1)).map muE = (l.take i).map muE ++ [muE m] := by
    rw [List.take_succ_eq_append_getElem hik, List.map_append]
    have hg' := List.getElem?_eq_getElem hik
    rw [hg] at hg'; cases hg'; rfl
   (repeat' ((conv => whnf); first | refine NBr.pos (by assumption) ?_ | refine NIdx.tab (fun _ => rfl) hg ?_ | refine NCall.eq (hO) (by rfl) ?_ | refine NCall.eq (hW) (by first | rfl | (simp only [AV.gives, AV.give, D.un, D.uns, un_bytesD, uns_bytesL, un_partsD]; first | done | rfl)) ?_ | refine NCall.eq (hQ) (by first | rfl | (simp only [AV.gives, AV.give, D.un, D.uns, un_bytesD, uns_bytesL]; first | done | rfl)) ?_ | refine NApp.one partO (muE m) ?_ | (with_reducible refine NInt.i64 ?_) | refine NFact.go ⟨by decide +kernel, by kernel_rfl⟩ ?_)); (all_goals (conv => whnf))
   refine ⟨i + 1, by omega, by omega, ?_⟩
   rw [hs']
   ((repeat' (first | exact trivial | exact leW_refl _ | refine And.intro ?_ ?_ | exact rfl)))
  ·have gi : decide ((i : Int) < l.length) = false := decide_eq_false (by omega)
   obtain rfl : i = l.length := by omega
   rw [List.take_length]
   (repeat' ((conv => whnf); first | refine NBr.neg (by assumption) ?_ | refine NCall.eq (hS) (by first | rfl | (simp only [AV.gives, AV.give, D.un, uns_partO]; first | done | rfl)) ?_)); (all_goals (conv => whnf))
   all_goals (refine NEnd.eq ?_; (repeat' (first | exact trivial | exact leW_refl _ | refine And.intro ?_ ?_ | exact rfl)))
 ·rw [if_neg h0]
  have : (!l.isEmpty && l.all muV) = false := by
   cases l with
   | nil => rfl
   | cons a r =>
     cases hh : (a :: r).all muV
     ·rfl
     ·exact absurd ⟨by simp, hh⟩ h0
  rw [this] at hV
  refine acalls_vc 34 _ tabOk mixed Tryz.func33 rfl (by kernel_rfl) rfl rfl rfl rfl fun W0 fp0 z0 => ?_
  (repeat' ((conv => whnf); first | refine NBr.yes ?_ | refine NCall.eq (hV) (by first | rfl | (simp only [AV.gives, AV.give, un_musD]; first | done | rfl)) ?_)); (all_goals (conv => whnf))
  all_goals (refine NEnd.eq ?_; (repeat' (first | exact leW_refl _ | refine And.intro ?_ ?_ | exact rfl)))
end Go.Proofs.YtblabcopgeobgaaGreatDoor

namespace Go.Proofs.YtblabcopgeobgaaGreatDoor
open Go.RowKit
set_option maxRecDepth 100000
set_option maxHeartbeats 8000000
def partsU (ps : List (List UInt8)) : D := tabD true 1 partO ps
theorem un_partsU (ps : List (List UInt8)) : (partsU ps).un = partsD ps := by
 show D.sl false ps.length 1 (D.uns (ps.flatMap partO)) = _
 rw [uns_partO]; rfl
def spl (b : List UInt8) (n : Nat) : List (List UInt8) := (partsS b 0 n).l.map (elO b)
theorem listF_bad {b : List UInt8} {en : Nat} : ∀ (f p : Nat), (listF b en f p).code ≠ 0 → (listF b en f p).l = [] := by
 intro f
 induction f with
 | zero => intro p h; rfl
 | succ f ih =>
   intro p h
   rw [listF] at h ⊢
   by_cases h3 : p < en
   ·rw [if_pos h3] at h ⊢
    by_cases h4 : (nxS b p en).code ≠ 0
    ·rw [if_pos h4]
    ·rw [if_neg h4] at h ⊢
     by_cases h5 : (listF b en f (nxS b p en).x.stop).code ≠ 0
     ·rw [if_pos h5]; exact ih _ h5
     ·rw [if_neg h5] at h; exact absurd rfl h
   ·rw [if_neg h3]
theorem partsS_in {b : List UInt8} {c n : Nat} {x : El} (h : x ∈ (partsS b c n).l) : x.at' + 2 ≤ x.body ∧ x.body ≤ x.stop ∧ x.stop ≤ b.length := by
 have hF := oneS_facts b
 unfold partsS at h
 split at h
 ·cases h
 ·split at h
  ·cases h
  ·have := listS_in hF.2.2.2.2.2.1 h
   omega
theorem partsS_cnt (b : List UInt8) (c n : Nat) : (partsS b c n).l.length ≤ b.length := by
 have hF := oneS_facts b
 unfold partsS
 split
 ·exact Nat.zero_le _
 ·split
  ·exact Nat.zero_le _
  ·have := listF_len (b := b) hF.2.2.2.2.2.1 ((oneS b).x.stop - (oneS b).x.body) (oneS b).x.body
   exact Nat.le_trans this (by omega)
theorem partsS_bad {b : List UInt8} {c n : Nat} (h : (partsS b c n).code ≠ 0) : (partsS b c n).l = [] := by
 unfold partsS at h ⊢
 split
 ·rfl
 ·split
  ·rfl
  ·rename_i h1 h2
   rw [if_neg h1, if_neg h2] at h
   exact listF_bad _ _ h
theorem map_snoc {α β : Type} (f : α → β) {l : List α} {i : Nat} {x : α} (h : l[i]? = some x) : (l.take (i + 1)).map f = (l.take i).map f ++ [f x] := by
 obtain ⟨hlt, he⟩ := List.getElem?_eq_some_iff.1 h
 rw [List.take_succ_eq_append_getElem hlt, he, List.map_append]; rfl
theorem attM_any (id b : List UInt8) (hb : b.length ≤ 30000) : ACalls Tryz.prog 74 [sx id, .d (bytesD false b)] (fun r => r = .tup [.agg [sx id, .d (partsU (spl b 17))], bv (decide ((partsS b 0 17).code = 0) && fitsB (spl b 17))]) := by
 have hP := parts_any b 0 17 (by omega)
 have hF := fits_any (spl b 17) (by have := partsS_cnt b 0 17; unfold spl; rw [List.length_map]; omega) (fun p hp => by
  unfold spl at hp
  obtain ⟨x, -, rfl⟩ := List.mem_map.1 hp
  unfold elO; rw [List.length_take, List.length_drop]; omega)
 by_cases h1 : (partsS b 0 17).code = 0
 ·have hin := fun x => partsS_in (b := b) (c := 0) (n := 17) (x := x)
  have hcn := partsS_cnt b 0 17
  rw [decide_eq_true h1, Bool.true_and]
  rw [lrA, if_neg (by omega)] at hP
  unfold spl at hF ⊢
  generalize (partsS b 0 17).l = l at hP hF hin hcn ⊢
  refine acalls_vc 46 _ tabOk mixed Tryz.func74 rfl (by kernel_rfl) rfl rfl rfl rfl fun W0 fp0 z0 => ?_
  (repeat' ((conv => whnf); refine NCall.eq (hP) (by first | rfl | (simp only [AV.gives, AV.give, D.un, un_bytesD]; first | done | rfl)) ?_)); (all_goals (conv => whnf))
  refine NLoop.goA [.b 6 1 1000 1 22] (fun i : Nat => i ≤ l.length) (fun i => l.length - i) (fun i => ⟨[(1, .d (bytesD false b)), (4, .ptr 4 0), (6, .ptr 6 0), (8, .ptr 8 0), (18, .d (elsD l)), (19, iv l.length), (20, iv i)], [(4, [sx [], nilA]), (6, [sx id, ownT 1000 1 22 partO ((l.take i).map (elO b))]), (8, [iv 0, iv 0])], [(1000, (((l.take i).map (elO b)).length, 1, 22))]⟩) 0 (by omega) (by ((repeat' (first | exact trivial | exact leW_refl _ | refine And.intro ?_ ?_ | exact rfl)))) ?_
  rintro i hi
  have hml : ((l.take i).map (elO b)).length ≤ 1000000 := by rw [List.length_map, List.length_take]; omega
  by_cases hik : i < l.length
  ·have gi : decide ((i : Int) < l.length) = true := decide_eq_true (by omega)
   obtain ⟨x, hg⟩ : ∃ p, l[i]? = some p := ⟨_, List.getElem?_eq_getElem hik⟩
   obtain ⟨k1, k2, k3⟩ := hin x (List.mem_of_getElem? hg)
   have hC := clone_any (elO b x) (by unfold elO; rw [List.length_take, List.length_drop]; omega)
   have hs := map_snoc (elO b) hg
   (repeat' ((conv => whnf); first | refine NBr.pos (by assumption) ?_ | refine NIdx.tab (fun _ => rfl) hg ?_ | refine NSl.slice (x.at') (x.stop) ?_ | refine NCall.eq (hC) (by first | rfl | (simp only [AV.gives, AV.give, D.un, uns_bytesL]; first | done | rfl)) ?_ | refine NApp.one partO (elO b x) ?_ | (with_reducible refine NInt.i64 ?_) | refine NFact.go ⟨by decide +kernel, by kernel_rfl⟩ ?_)); (all_goals (conv => whnf))
   refine ⟨i + 1, by omega, by omega, ?_⟩
   rw [hs]
   ((repeat' (first | exact trivial | exact leW_refl _ | refine And.intro ?_ ?_ | exact rfl)))
  ·have gi : decide ((i : Int) < l.length) = false := decide_eq_false (by omega)
   obtain rfl : i = l.length := by omega
   rw [List.take_length]
   (repeat' ((conv => whnf); first | refine NBr.yes ?_ | refine NBr.neg (by assumption) ?_ | refine NCall.eq (hF) (by first | rfl | (simp only [AV.gives, AV.give, uns_partO]; first | done | rfl)) ?_ | refine NFact.go ⟨by decide +kernel, by kernel_rfl⟩ ?_)); (all_goals (conv => whnf))
   all_goals (refine NEnd.eq ?_; (repeat' (first | exact trivial | exact leW_refl _ | refine And.intro ?_ ?_ | exact rfl)))
 ·have h2 := partsS_bad h1
  rw [decide_eq_false h1, Bool.false_and]
  have hs : spl b 17 = [] := by unfold spl; rw [h2]; rfl
  rw [hs]
  rw [lrA, if_pos h1] at hP
  have gc : (((partsS b 0 17).code : Int) == 0) = false := by rw [beq_eq_false_iff_ne]; omega
  generalize (partsS b 0 17).code = c at hP gc
  generalize (partsS b 0 17).off = o at hP
  refine acalls_vc 46 _ tabOk mixed Tryz.func74 rfl (by kernel_rfl) rfl rfl rfl rfl fun W0 fp0 z0 => ?_
  (repeat' ((conv => whnf); refine NCall.eq (hP) (by first | rfl | (simp only [AV.gives, AV.give, D.un, un_bytesD]; first | done | rfl)) ?_)); (all_goals (conv => whnf))
  refine NLoop.rounds 1 ?_
  (repeat' ((conv => whnf); first | refine NBr.no ?_ | refine NBr.neg (by assumption) ?_ | refine NFact.go ⟨by decide +kernel, by kernel_rfl⟩ ?_)); (all_goals (conv => whnf))
  all_goals (refine NEnd.eq ?_; (repeat' (first | exact trivial | exact leW_refl _ | refine And.intro ?_ ?_ | exact rfl)))
end Go.Proofs.YtblabcopgeobgaaGreatDoor

namespace Go.Proofs.YtblabcopgeobgaaGreatDoor
open Go.RowKit
set_option maxRecDepth 100000
set_option maxHeartbeats 8000000
def bod (b : List UInt8) (x : El) : List UInt8 := (b.drop x.body).take (x.stop - x.body)
def pairE (b : List UInt8) : LR → Option (List UInt8 × List UInt8)
 | ⟨[x, y], 0, _⟩ => if x.isB 0 6 false = true ∧ odC (bod b x) = 0 then some (odT (bod b x), elO b y) else none
 | _ => none
def pairV (b : List UInt8) : Option (List UInt8 × List UInt8) := pairE b (partsS b 0 16)
def okM (s : List UInt8) : Bool := decide ((partsS s 0 17).code = 0) && fitsB (spl s 17)
def oneA : Option (List UInt8 × List UInt8) → AV
 | none => .tup [.agg [sx [], nilA], bv false]
 | some (id, s) => .tup [.agg [sx id, .d (partsU (spl s 17))], bv (okM s)]
theorem pair_no {b : List UInt8} {r : LR} (h : r.code ≠ 0 ∨ r.l.length ≠ 2) : pairE b r = none := by
 obtain ⟨l, c, o⟩ := r
 match l, c with
 | [x, y], 0 => rcases h with h | h <;> simp at h
 | [x, y], c + 1 => rfl
 | [], 0 => rfl
 | [], c + 1 => rfl
 | [x], 0 => rfl
 | [x], c + 1 => rfl
 | x :: y :: z :: r, 0 => rfl
 | x :: y :: z :: r, c + 1 => rfl
theorem pOne_any (b : List UInt8) (hb : b.length ≤ 30000) : ACalls Tryz.prog 79 [mpA, .d (bytesD false b)] (fun r => r = oneA (pairV b)) := by
 have hP := parts_any b 0 16 (by omega)
 have hin := fun x => partsS_in (b := b) (c := 0) (n := 16) (x := x)
 have hcn := partsS_cnt b 0 16
 unfold pairV
 generalize partsS b 0 16 = r at hP hin hcn ⊢
 by_cases h1 : r.code ≠ 0
 ·rw [pair_no (.inl h1)]
  rw [lrA, if_pos h1] at hP
  have gc : ((r.code : Int) != 0) = true := by rw [bne_iff_ne]; omega
  generalize r.code = c at hP gc
  generalize r.off = o at hP
  refine acalls_vc 65 _ tabOk mixed Tryz.func79 rfl (by kernel_rfl) rfl rfl rfl rfl fun W0 fp0 z0 => ?_
  (repeat' ((conv => whnf); first | refine NBr.yes ?_ | refine NBr.pos (by assumption) ?_ | refine NCall.eq (hP) (by first | rfl | (simp only [AV.gives, AV.give, D.un, un_bytesD]; first | done | rfl)) ?_)); (all_goals (conv => whnf))
  all_goals (refine NEnd.eq ?_; (repeat' (first | exact leW_refl _ | refine And.intro ?_ ?_ | exact rfl)))
 rw [lrA, if_neg h1] at hP
 by_cases h2 : r.l.length ≠ 2
 ·rw [pair_no (.inr h2)]
  have gl : ((r.l.length : Int) != 2) = true := by rw [bne_iff_ne]; omega
  refine acalls_vc 65 _ tabOk mixed Tryz.func79 rfl (by kernel_rfl) rfl rfl rfl rfl fun W0 fp0 z0 => ?_
  (repeat' ((conv => whnf); first | refine NBr.yes ?_ | refine NBr.no ?_ | refine NBr.pos (by assumption) ?_ | refine NCall.eq (hP) (by first | rfl | (simp only [AV.gives, AV.give, D.un, un_bytesD]; first | done | rfl)) ?_)); (all_goals (conv => whnf))
  all_goals (refine NEnd.eq ?_; (repeat' (first | exact leW_refl _ | refine And.intro ?_ ?_ | exact rfl)))
 obtain ⟨l, c, o⟩ := r
 obtain ⟨x, y, rfl⟩ : ∃ x y, l = [x, y] := by
  match l, h2 with
  | [x, y], _ => exact ⟨x, y, rfl⟩
  | [], h => simp at h
  | [x], h => simp at h
  | x :: y :: z :: r, h => simp at h
 obtain rfl : c = 0 := Decidable.not_not.1 h1
 obtain ⟨x1, x2, x3⟩ := hin x (by simp)
 obtain ⟨y1, y2, y3⟩ := hin y (by simp)
 have hI := is_any x 0 6 false
 have hD := oidDec_any (bod b x) (by unfold bod; rw [List.length_take, List.length_drop]; omega)
 have hM := attM_any (odT (bod b x)) (elO b y) (by unfold elO; rw [List.length_take, List.length_drop]; omega)
 have g0 : ([x, y] : List El)[0]? = some x := rfl
 have g1 : ([x, y] : List El)[1]? = some y := rfl
 show ACalls _ _ _ (fun r => r = oneA (if x.isB 0 6 false = true ∧ odC (bod b x) = 0 then some (odT (bod b x), elO b y) else none))
 cases hi : x.isB 0 6 false
 ·rw [hi] at hI
  rw [if_neg (by simp)]
  refine acalls_vc 65 _ tabOk mixed Tryz.func79 rfl (by kernel_rfl) rfl rfl rfl rfl fun W0 fp0 z0 => ?_
  (repeat' ((conv => whnf); first | refine NBr.yes ?_ | refine NBr.no ?_ | refine NCall.eq (hP) (by first | rfl | (simp only [AV.gives, AV.give, D.un, un_bytesD]; first | done | rfl)) ?_ | refine NIdx.tab (fun _ => rfl) g0 ?_ | refine NCall.eq (hI) (by rfl) ?_)); (all_goals (conv => whnf))
  all_goals (refine NEnd.eq ?_; (repeat' (first | exact leW_refl _ | refine And.intro ?_ ?_ | exact rfl)))
 rw [hi] at hI
 by_cases h3 : odC (bod b x) = 0
 ·rw [if_pos ⟨rfl, h3⟩]
  rw [decA, h3] at hD
  show ACalls _ _ _ (fun r => r = .tup [.agg [sx (odT (bod b x)), .d (partsU (spl (elO b y) 17))], bv (okM (elO b y))])
  unfold okM
  unfold bod at hD hM ⊢
  refine acalls_vc 65 _ tabOk mixed Tryz.func79 rfl (by kernel_rfl) rfl rfl rfl rfl fun W0 fp0 z0 => ?_
  (repeat' ((conv => whnf); first | refine NBr.no ?_ | refine NCall.eq (hP) (by first | rfl | (simp only [AV.gives, AV.give, D.un, un_bytesD]; first | done | rfl)) ?_ | refine NIdx.tab (fun _ => rfl) g0 ?_ | refine NIdx.tab (fun _ => rfl) g1 ?_ | refine NCall.eq (hI) (by rfl) ?_ | refine NSl.slice (x.body) (x.stop) ?_ | refine NSl.slice (y.at') (y.stop) ?_ | refine NCall.eq (hD) (by first | rfl | (simp only [AV.gives, AV.give, D.un, uns_bytesL]; first | done | rfl)) ?_ | refine NCall.eq (hM) (by first | rfl | (simp only [AV.gives, AV.give, D.un, uns_bytesL, List.nil_append, List.cons_append]; first | done | rfl)) ?_ | refine NFact.go ⟨by decide +kernel, by kernel_rfl⟩ ?_)); (all_goals (conv => whnf))
  all_goals (refine NEnd.eq ?_; (repeat' (first | exact leW_refl _ | refine And.intro ?_ ?_ | exact rfl)))
 ·rw [if_neg (fun h => h3 h.2)]
  have gd : ((odC (bod b x) : Int) != 0) = true := by rw [bne_iff_ne]; omega
  rw [decA] at hD
  unfold bod at hD hM gd
  refine acalls_vc 65 _ tabOk mixed Tryz.func79 rfl (by kernel_rfl) rfl rfl rfl rfl fun W0 fp0 z0 => ?_
  (repeat' ((conv => whnf); first | refine NBr.no ?_ | refine NBr.pos (by assumption) ?_ | refine NCall.eq (hP) (by first | rfl | (simp only [AV.gives, AV.give, D.un, un_bytesD]; first | done | rfl)) ?_ | refine NIdx.tab (fun _ => rfl) g0 ?_ | refine NCall.eq (hI) (by rfl) ?_ | refine NSl.slice (x.body) (x.stop) ?_ | refine NCall.eq (hD) (by first | rfl | (simp only [AV.gives, AV.give, D.un, uns_bytesL]; first | done | rfl)) ?_ | refine NFact.go ⟨by decide +kernel, by kernel_rfl⟩ ?_)); (all_goals (conv => whnf))
  all_goals (refine NEnd.eq ?_; (repeat' (first | exact leW_refl _ | refine And.intro ?_ ?_ | exact rfl)))
def muO (m : Mu) : List D := [.v (.string ⟨⟨m.oid⟩⟩), partsU m.vs]
def musU (l : List Mu) : D := tabD true 2 muO l
theorem uns_muO (l : List Mu) : D.uns (l.flatMap muO) = l.flatMap muC := by
 induction l with
 | nil => rfl
 | cons m r ih =>
   show D.un (D.v (.string ⟨⟨m.oid⟩⟩)) :: D.un (partsU m.vs) :: D.uns (r.flatMap muO) = _
   rw [un_partsU, ih]; rfl
theorem un_musU (l : List Mu) : (musU l).un = musD l := by
 show D.sl false l.length 2 (D.uns (l.flatMap muO)) = _
 rw [uns_muO]; rfl
def vMu (s : List UInt8) : Option Mu := match pairV s with
 | some (id, t) => if okM t = true then some ⟨id, spl t 17⟩ else none
 | none => none
def parL (b : List UInt8) : List El → Option (List Mu) × Nat
 | [] => (some [], 0)
 | x :: r => match vMu (elO b x) with
   | none => (none, x.at')
   | some m => match parL b r with
     | (some ms, _) => (some (m :: ms), 0)
     | (none, p) => (none, p)
def prep (ms : List Mu) : Option (List Mu) × Nat → Option (List Mu) × Nat
 | (some r, _) => (some (ms ++ r), 0)
 | (none, p) => (none, p)
theorem parL_zero (b : List UInt8) : ∀ l : List El, (parL b l).1.isSome = true → (parL b l).2 = 0
 | [], _ => rfl
 | x :: r, h => by
   rw [parL] at h ⊢
   cases hv : vMu (elO b x) with
   | none => rw [hv] at h; cases h
   | some m =>
     rw [hv] at h
     cases hp : parL b r with
     | mk o p => rw [hp] at h; cases o with
       | none => cases h
       | some ms => rfl
theorem prep_nil (b : List UInt8) (l : List El) : prep [] (parL b l) = parL b l := by
 have h := parL_zero b l
 cases hp : parL b l with
 | mk o p =>
   rw [hp] at h
   cases o with
   | none => rfl
   | some ms => have := h rfl; simp only at this; subst this; rfl
theorem prep_snoc {b : List UInt8} {x : El} {r : List El} {m : Mu} (ms : List Mu) (hv : vMu (elO b x) = some m) : prep ms (parL b (x :: r)) = prep (ms ++ [m]) (parL b r) := by
 rw [parL, hv]
 cases hp : parL b r with
 | mk o p => cases o with
   | none => rfl
   | some l => simp [prep]
def parA (b : List UInt8) : AV := if (partsS b 0 16).code ≠ 0 then .tup [nilA, erA (partsS b 0 16).code (partsS b 0 16).off] else
 match parL b (partsS b 0 16).l with
 | (none, p) => .tup [nilA, erA 6 p]
 | (some [], _) => .tup [nilA, erA 1 b.length]
 | (some ms, _) => .tup [.d (musU ms), erA 0 0]
theorem drop_cons {α : Type} {l : List α} {i : Nat} {x : α} (h : l[i]? = some x) : l.drop i = x :: l.drop (i + 1) := by
 obtain ⟨hlt, he⟩ := List.getElem?_eq_some_iff.1 h
 rw [List.drop_eq_getElem_cons hlt, he]
theorem pPar_any (b : List UInt8) (hb : b.length ≤ 30000) : ACalls Tryz.prog 52 [mpA, .d (bytesD false b)] (fun r => r = parA b) := by
 have hP := parts_any b 0 16 (by omega)
 have hin := fun x => partsS_in (b := b) (c := 0) (n := 16) (x := x)
 have hcn := partsS_cnt b 0 16
 unfold parA
 generalize partsS b 0 16 = R at hP hin hcn ⊢
 by_cases h1 : R.code ≠ 0
 ·rw [if_pos h1]
  rw [lrA, if_pos h1] at hP
  have gc : ((R.code : Int) != 0) = true := by rw [bne_iff_ne]; omega
  generalize R.code = c at hP gc
  generalize R.off = o at hP
  refine acalls_vc 57 _ tabOk mixed Tryz.func52 rfl (by kernel_rfl) rfl rfl rfl rfl fun W0 fp0 z0 => ?_
  (repeat' ((conv => whnf); first | refine NBr.pos (by assumption) ?_ | refine NCall.eq (hP) (by first | rfl | (simp only [AV.gives, AV.give, D.un, un_bytesD]; first | done | rfl)) ?_ | refine NFact.go ⟨by decide +kernel, by kernel_rfl⟩ ?_)); (all_goals (conv => whnf))
  all_goals (refine NEnd.eq ?_; (repeat' (first | exact leW_refl _ | refine And.intro ?_ ?_ | exact rfl)))
 rw [if_neg h1]
 rw [lrA, if_neg h1] at hP
 generalize R.l = l at hP hin hcn ⊢
 have hd0 : parL b l = prep [] (parL b (l.drop 0)) := by rw [prep_nil, List.drop_zero]
 generalize hQ : parL b l = q at hd0 ⊢
 refine acalls_vc 57 _ tabOk mixed Tryz.func52 rfl (by kernel_rfl) rfl rfl rfl rfl fun W0 fp0 z0 => ?_
 (repeat' ((conv => whnf); first | refine NBr.no ?_ | refine NCall.eq (hP) (by first | rfl | (simp only [AV.gives, AV.give, D.un, un_bytesD]; first | done | rfl)) ?_)); (all_goals (conv => whnf))
 refine NLoop.goA [.s 8 2 89] (fun z : Nat × List Mu => z.1 ≤ l.length ∧ z.2.length ≤ z.1 ∧ q = prep z.2 (parL b (l.drop z.1))) (fun z => l.length - z.1) (fun z => ⟨[(1, .d (bytesD false b)), (2, .ptr 2 0), (5, .ptr 5 0), (8, ownT 8 2 89 muO z.2), (22, .d (elsD l)), (23, iv l.length), (24, iv z.1)], [(2, [.d (.fn 74 []), .d (.fn 77 [])]), (5, [iv 0, iv 0])], [(8, (z.2.length, 2, 89))]⟩) (0, []) ⟨by simp, by simp, hd0⟩ (by ((repeat' (first | exact trivial | exact leW_refl _ | refine And.intro ?_ ?_ | exact rfl)))) ?_
 rintro ⟨i, ms⟩ ⟨hi, hm, he⟩
 simp only at hi hm he
 by_cases hik : i < l.length
 ·have gi : decide ((i : Int) < l.length) = true := decide_eq_true (by omega)
  obtain ⟨x, hg⟩ : ∃ p, l[i]? = some p := ⟨_, List.getElem?_eq_getElem hik⟩
  obtain ⟨x1, x2, x3⟩ := hin x (List.mem_of_getElem? hg)
  have hO := pOne_any (elO b x) (by unfold elO; rw [List.length_take, List.length_drop]; omega)
  rw [drop_cons hg] at he
  have bad : vMu (elO b x) = none → q = (none, x.at') := fun h => by rw [he, parL, h]; rfl
  unfold vMu at bad
  cases hp : pairV (elO b x) with
  | none =>
    rw [hp] at hO bad
    rw [bad rfl]
    rw [oneA] at hO
    unfold elO at hO
    (repeat' ((conv => whnf); first | refine NBr.yes ?_ | refine NBr.pos (by assumption) ?_ | refine NIdx.tab (fun _ => rfl) hg ?_ | refine NSl.slice (x.at') (x.stop) ?_ | refine NCall.eq (hO) (by first | rfl | (simp only [AV.gives, AV.give, D.un, D.uns, uns_bytesL]; first | done | rfl)) ?_ | refine NFact.go ⟨by decide +kernel, by kernel_rfl⟩ ?_)); (all_goals (conv => whnf))
    all_goals (refine NEnd.eq ?_; (repeat' (first | exact leW_refl _ | refine And.intro ?_ ?_ | exact rfl)))
  | some w =>
    obtain ⟨id, s⟩ := w
    rw [hp] at hO bad
    rw [oneA] at hO
    cases hk : okM s
    ·rw [hk] at hO
     have bad' : q = (none, x.at') := bad (by show (if okM s = true then some (⟨id, spl s 17⟩ : Mu) else none) = none; rw [hk]; rfl)
     rw [bad']
     unfold elO at hO
     (repeat' ((conv => whnf); first | refine NBr.yes ?_ | refine NBr.pos (by assumption) ?_ | refine NIdx.tab (fun _ => rfl) hg ?_ | refine NSl.slice (x.at') (x.stop) ?_ | refine NCall.eq (hO) (by first | rfl | (simp only [AV.gives, AV.give, D.un, D.uns, uns_bytesL]; first | done | rfl)) ?_ | refine NFact.go ⟨by decide +kernel, by kernel_rfl⟩ ?_)); (all_goals (conv => whnf))
     all_goals (refine NEnd.eq ?_; (repeat' (first | exact leW_refl _ | refine And.intro ?_ ?_ | exact rfl)))
    ·have hv : vMu (elO b x) = some ⟨id, spl s 17⟩ := by unfold vMu; rw [hp]; show (if okM s = true then _ else _) = _; rw [if_pos hk]
     rw [hk] at hO
     rw [prep_snoc ms hv] at he
     unfold elO at hO
     (repeat' ((conv => whnf); first | refine NBr.no ?_ | refine NBr.pos (by assumption) ?_ | refine NIdx.tab (fun _ => rfl) hg ?_ | refine NSl.slice (x.at') (x.stop) ?_ | refine NCall.eq (hO) (by first | rfl | (simp only [AV.gives, AV.give, D.un, D.uns, uns_bytesL]; first | done | rfl)) ?_ | refine NApp.one muO (⟨id, spl s 17⟩ : Mu) ?_ | (with_reducible refine NInt.i64 ?_) | refine NFact.go ⟨by decide +kernel, by kernel_rfl⟩ ?_)); (all_goals (conv => whnf))
     refine ⟨(i + 1, ms ++ [⟨id, spl s 17⟩]), ⟨by show i + 1 ≤ _; omega, by simp; omega, he⟩, by show l.length - (i + 1) < l.length - i; omega, ?_⟩
     ((repeat' (first | exact trivial | exact leW_refl _ | refine And.intro ?_ ?_ | exact rfl)))
 ·have gi : decide ((i : Int) < l.length) = false := decide_eq_false (by omega)
  obtain rfl : i = l.length := by omega
  rw [List.drop_length, parL] at he
  have he' : q = (some ms, 0) := by rw [he]; simp [prep]
  subst he'
  cases ms with
  | nil =>
    (repeat' ((conv => whnf); first | refine NBr.yes ?_ | refine NBr.neg (by assumption) ?_)); (all_goals (conv => whnf))
    all_goals (refine NEnd.eq ?_; (repeat' (first | exact leW_refl _ | refine And.intro ?_ ?_ | exact rfl)))
  | cons m r =>
    (repeat' ((conv => whnf); first | refine NBr.no ?_ | refine NBr.neg (by assumption) ?_)); (all_goals (conv => whnf))
    all_goals (refine NEnd.eq ?_; (repeat' (first | exact trivial | exact leW_refl _ | refine And.intro ?_ ?_ | exact rfl)))
theorem parMu_any (b : List UInt8) (hb : b.length ≤ 30000) : ACalls Tryz.prog 31 [.d (bytesD false b)] (fun r => r = parA b) := by
 have hA := atts_any
 have hP := pPar_any b hb
 unfold parA at hP ⊢
 by_cases h1 : (partsS b 0 16).code ≠ 0
 ·rw [if_pos h1] at hP ⊢
  generalize (partsS b 0 16).code = c at hP
  generalize (partsS b 0 16).off = o at hP
  refine acalls_vc 9 _ tabOk mixed Tryz.func31 rfl (by kernel_rfl) rfl rfl rfl rfl fun W0 fp0 z0 => ?_
  (repeat' ((conv => whnf); first | refine NCall.eq (hA) (by rfl) ?_ | refine NCall.eq (hP) (by first | rfl | (simp only [AV.gives, AV.give, D.un, D.uns, un_bytesD]; first | done | rfl)) ?_)); (all_goals (conv => whnf))
  all_goals (refine NEnd.eq ?_; (repeat' (first | exact leW_refl _ | refine And.intro ?_ ?_ | exact rfl)))
 rw [if_neg h1] at hP ⊢
 generalize parL b (partsS b 0 16).l = q at hP ⊢
 obtain ⟨o, p⟩ := q
 match o with
 | none =>
   replace hP : ACalls Tryz.prog 52 [mpA, .d (bytesD false b)] (fun r => r = .tup [nilA, erA 6 p]) := hP
   show ACalls _ _ _ (fun r => r = .tup [nilA, erA 6 p])
   refine acalls_vc 9 _ tabOk mixed Tryz.func31 rfl (by kernel_rfl) rfl rfl rfl rfl fun W0 fp0 z0 => ?_
   (repeat' ((conv => whnf); first | refine NCall.eq (hA) (by rfl) ?_ | refine NCall.eq (hP) (by first | rfl | (simp only [AV.gives, AV.give, D.un, D.uns, un_bytesD]; first | done | rfl)) ?_)); (all_goals (conv => whnf))
   all_goals (refine NEnd.eq ?_; (repeat' (first | exact leW_refl _ | refine And.intro ?_ ?_ | exact rfl)))
 | some [] =>
   replace hP : ACalls Tryz.prog 52 [mpA, .d (bytesD false b)] (fun r => r = .tup [nilA, erA 1 b.length]) := hP
   show ACalls _ _ _ (fun r => r = .tup [nilA, erA 1 b.length])
   refine acalls_vc 9 _ tabOk mixed Tryz.func31 rfl (by kernel_rfl) rfl rfl rfl rfl fun W0 fp0 z0 => ?_
   (repeat' ((conv => whnf); first | refine NCall.eq (hA) (by rfl) ?_ | refine NCall.eq (hP) (by first | rfl | (simp only [AV.gives, AV.give, D.un, D.uns, un_bytesD]; first | done | rfl)) ?_)); (all_goals (conv => whnf))
   all_goals (refine NEnd.eq ?_; (repeat' (first | exact leW_refl _ | refine And.intro ?_ ?_ | exact rfl)))
 | some (m :: r) =>
   replace hP : ACalls Tryz.prog 52 [mpA, .d (bytesD false b)] (fun r' => r' = .tup [.d (musU (m :: r)), erA 0 0]) := hP
   show ACalls _ _ _ (fun r' => r' = .tup [.d (musU (m :: r)), erA 0 0])
   refine acalls_vc 9 _ tabOk mixed Tryz.func31 rfl (by kernel_rfl) rfl rfl rfl rfl fun W0 fp0 z0 => ?_
   (repeat' ((conv => whnf); first | refine NCall.eq (hA) (by rfl) ?_ | refine NCall.eq (hP) (by first | rfl | (simp only [AV.gives, AV.give, D.un, D.uns, un_bytesD]; first | done | rfl)) ?_)); (all_goals (conv => whnf))
   all_goals (refine NEnd.eq ?_; (repeat' (first | exact leW_refl _ | refine And.intro ?_ ?_ | exact rfl)))
end Go.Proofs.YtblabcopgeobgaaGreatDoor

namespace Go.Proofs.YtblabcopgeobgaaGreatDoor
open Go.RowKit
set_option maxRecDepth 100000
set_option maxHeartbeats 8000000
def rdMu (k : Tr) : Mu := ⟨odT (k.kid 0).v, (k.kid 1).ks.map Tr.enc⟩
theorem rReadMu_any (t : Tr) (hn : t.ks.length ≤ 100000) (hk : ∀ k ∈ t.ks, (k.kid 0).v.length ≤ 30000 ∧ (k.kid 1).ks.length ≤ 100000 ∧ ∀ g ∈ (k.kid 1).ks, g.ok ∧ g.enc.length ≤ 100000) : ACalls Tryz.prog 59 [trF t] (fun r => r = .d (musU (t.ks.map rdMu))) := by
 obtain ⟨c, n, k, b, ks⟩ := t
 rw [trF_eq]
 simp only [Tr.ks] at hn hk ⊢
 refine acalls_vc 52 _ tabOk mixed Tryz.func59 rfl (by kernel_rfl) rfl rfl rfl rfl fun W0 fp0 z0 => ?_
 (all_goals (conv => whnf))
 refine NLoop.goA [.s 3 2 89] (fun i : Nat => i ≤ ks.length) (fun i => ks.length - i) (fun i => ⟨[(1, .ptr 1 0), (3, ownT 3 2 89 muO ((ks.take i).map rdMu)), (4, iv i)], [(1, [iv c, iv n, bv k, .d (bytesD false b), .d (.sl false ks.length 5 (Tr.cellss false ks))])], [(3, (((ks.take i).map rdMu).length, 2, 89))]⟩) 0 (by omega) (by ((repeat' (first | exact trivial | exact leW_refl _ | refine And.intro ?_ ?_ | exact rfl)))) ?_
 rintro i hi
 have hml : ((ks.take i).map rdMu).length ≤ 100000 := by rw [List.length_map, List.length_take]; omega
 by_cases hik : i < ks.length
 ·have gi : decide ((i : Int) < ks.length) = true := decide_eq_true (by omega)
  obtain ⟨x, hg⟩ : ∃ p, ks[i]? = some p := ⟨_, List.getElem?_eq_getElem hik⟩
  obtain ⟨h1, h2, h3⟩ := hk x (List.mem_of_getElem? hg)
  have hs := map_snoc rdMu hg
  have q0 := kid_any x 0 (by omega)
  have q1 := kid_any x 1 (by omega)
  have hR := readObj_any (x.kid 0) h1
  have hx : rdMu x = ⟨odT (x.kid 0).v, (x.kid 1).ks.map Tr.enc⟩ := rfl
  generalize x.kid 0 = y at q0 hR hx
  generalize x.kid 1 = z at q1 h2 h3 hx
  obtain ⟨c', n', k', b', ks'⟩ := x
  obtain ⟨c0, n0, k0, b0, ks0⟩ := y
  obtain ⟨c1, n1, k1, b1, ks1⟩ := z
  rw [trF_eq] at q0 q1 hR
  rw [trF_eq] at q0 q1
  simp only [Tr.ks, Tr.v] at h2 h3 hx hR
  (repeat' ((conv => whnf); first | refine NBr.pos (by assumption) ?_ | (refine NIdx.trs hg ?_) | refine NCall.eq (q0) (by first | rfl | (simp only [AV.gives, AV.give, D.un, un_bytesD, Tr.cellss_un]; first | done | rfl)) ?_ | refine NCall.eq (q1) (by first | rfl | (simp only [AV.gives, AV.give, D.un, un_bytesD, Tr.cellss_un]; first | done | rfl)) ?_ | refine NCall.eq (hR) (by first | rfl | (simp only [AV.gives, AV.give, D.un, un_bytesD, Tr.cellss_un]; first | done | rfl)) ?_)); (all_goals (conv => whnf))
  refine NLoop.goA [.b 5 1 1000 1 22] (fun j : Nat => j ≤ ks1.length) (fun j => ks1.length - j) (fun j => ⟨[(1, .ptr 1 0), (3, ownT 3 2 89 muO ((ks.take i).map rdMu)), (4, iv i), (5, .ptr 5 0), (6, .ptr 6 0), (7, iv j)], [(1, [iv c, iv n, bv k, .d (bytesD false b), .d (.sl false ks.length 5 (Tr.cellss false ks))]), (5, [sx (odT b0), ownT 1000 1 22 partO ((ks1.take j).map Tr.enc)]), (6, [iv c1, iv n1, bv k1, .d (bytesD false b1), .d (.sl false ks1.length 5 (Tr.cellss false ks1))])], [(3, (((ks.take i).map rdMu).length, 2, 89)), (1000, (((ks1.take j).map Tr.enc).length, 1, 22))]⟩) 0 (by omega) (by ((repeat' (first | exact trivial | exact leW_refl _ | refine And.intro ?_ ?_ | exact rfl)))) ?_
  rintro j hj
  have hmj : ((ks1.take j).map Tr.enc).length ≤ 100000 := by rw [List.length_map, List.length_take]; omega
  by_cases hjk : j < ks1.length
  ·have gj : decide ((j : Int) < ks1.length) = true := decide_eq_true (by omega)
   obtain ⟨g, hgg⟩ : ∃ p, ks1[j]? = some p := ⟨_, List.getElem?_eq_getElem hjk⟩
   obtain ⟨o1, o2⟩ := h3 g (List.mem_of_getElem? hgg)
   have hB := rBytes_any g o1 (by omega)
   have hs1 := map_snoc Tr.enc hgg
   generalize he : g.enc = e at hB hs1 o2
   obtain ⟨c2, n2, k2, b2, ks2⟩ := g
   rw [trF_eq] at hB
   (repeat' ((conv => whnf); first | refine NBr.pos (by assumption) ?_ | (refine NIdx.trs hgg ?_) | refine NCall.eq (hB) (by first | rfl | (simp only [AV.gives, AV.give, D.un, un_bytesD, Tr.cellss_un]; first | done | rfl)) ?_ | refine NApp.one partO e ?_ | (with_reducible refine NInt.i64 ?_) | refine NFact.go ⟨by decide +kernel, by kernel_rfl⟩ ?_)); (all_goals (conv => whnf))
   refine ⟨j + 1, by omega, by omega, ?_⟩
   rw [hs1]
   ((repeat' (first | exact trivial | exact leW_refl _ | refine And.intro ?_ ?_ | exact rfl)))
  ·have gj : decide ((j : Int) < ks1.length) = false := decide_eq_false (by omega)
   obtain rfl : j = ks1.length := by omega
   rw [List.take_length]
   (repeat' ((conv => whnf); first | refine NBr.neg (by assumption) ?_ | refine NApp.one muO (⟨odT b0, ks1.map Tr.enc⟩ : Mu) ?_ | (with_reducible refine NInt.i64 ?_))); (all_goals (conv => whnf))
   refine ⟨i + 1, by omega, by omega, ?_⟩
   rw [hs, hx]
   ((repeat' (first | exact trivial | exact leW_refl _ | refine And.intro ?_ ?_ | exact rfl)))
 ·have gi : decide ((i : Int) < ks.length) = false := decide_eq_false (by omega)
  obtain rfl : i = ks.length := by omega
  rw [List.take_length]
  (repeat' ((conv => whnf); refine NBr.neg (by assumption) ?_)); (all_goals (conv => whnf))
  all_goals (refine NEnd.eq ?_; (repeat' (first | refine And.intro ?_ ?_ | exact rfl)))
end Go.Proofs.YtblabcopgeobgaaGreatDoor

namespace Go.Proofs.YtblabcopgeobgaaGreatDoor
open Go.RowKit
set_option maxRecDepth 100000
set_option maxHeartbeats 8000000
theorem take_eq {α : Type} {a b : List α} {i : Nat} {x : α} (h : a.take i = b.take i) (h1 : a[i]? = some x) (h2 : b[i]? = some x) : a.take (i + 1) = b.take (i + 1) := by
 obtain ⟨l1, e1⟩ := List.getElem?_eq_some_iff.1 h1
 obtain ⟨l2, e2⟩ := List.getElem?_eq_some_iff.1 h2
 rw [List.take_succ_eq_append_getElem l1, List.take_succ_eq_append_getElem l2, h, e1, e2]
theorem ne_at {α : Type} {a b : List α} {i : Nat} {x y : α} (h1 : a[i]? = some x) (h2 : b[i]? = some y) (h : x ≠ y) : a ≠ b := fun e => by
 subst e; rw [h1] at h2; exact h (Option.some.inj h2)
theorem eq_end {α : Type} {a b : List α} {i : Nat} (h : a.take i = b.take i) (hi : ¬ (i < a.length ∧ i < b.length)) (ha : i ≤ a.length) (hb : i ≤ b.length) (he : a.length = b.length) : a = b := by
 have h1 : a.take i = a := List.take_of_length_le (by omega)
 have h2 : b.take i = b := List.take_of_length_le (by omega)
 rw [← h1, ← h2, h]
theorem slices_any (a b : List (List UInt8)) (ha : a.length ≤ 1000000 ∧ ∀ p ∈ a, p.length ≤ 1000000000) (hb : b.length ≤ 1000000 ∧ ∀ p ∈ b, p.length ≤ 1000000000) : ACalls Tryz.prog 53 [.d (partsD a), .d (partsD b)] (fun r => r = bv (decide (a = b))) := by
 obtain ⟨ha, hpa⟩ := ha
 obtain ⟨hb, hpb⟩ := hb
 refine acalls_vc 33 _ tabOk mixed Tryz.func53 rfl (by kernel_rfl) rfl rfl rfl rfl fun W0 fp0 z0 => ?_
 (all_goals (conv => whnf))
 refine NLoop.go (fun i : Nat => i ≤ a.length ∧ i ≤ b.length ∧ a.take i = b.take i) (fun i => a.length - i) (fun i => ⟨[(0, .d (partsD a)), (1, .d (partsD b)), (5, iv i)], [], []⟩) 0 ⟨by omega, by omega, rfl⟩ (by ((repeat' (first | exact trivial | exact leW_refl _ | refine And.intro ?_ ?_)))) ?_
 rintro i ⟨hi, hj, ht⟩
 by_cases hik : i < a.length ∧ i < b.length
 ·obtain ⟨k1, k2⟩ := hik
  have g1 : decide ((i : Int) < a.length) = true := decide_eq_true (by omega)
  have g2 : decide ((i : Int) < b.length) = true := decide_eq_true (by omega)
  obtain ⟨x, hx⟩ : ∃ p, a[i]? = some p := ⟨_, List.getElem?_eq_getElem k1⟩
  obtain ⟨y, hy⟩ : ∃ p, b[i]? = some p := ⟨_, List.getElem?_eq_getElem k2⟩
  have hB := bytesEq_any false false x y (hpa x (List.mem_of_getElem? hx)) (hpb y (List.mem_of_getElem? hy))
  cases hq : (x == y)
  ·rw [hq] at hB
   rw [decide_eq_false (ne_at hx hy (by simpa using hq))]
   (repeat' ((conv => whnf); first | refine NBr.yes ?_ | refine NBr.pos (by assumption) ?_ | refine NIdx.tab (fun _ => rfl) hx ?_ | refine NIdx.tab (fun _ => rfl) hy ?_ | refine NCall.eq (hB) (by first | rfl | (simp only [AV.gives, AV.give, un_bytesD]; first | done | rfl)) ?_ | refine NFact.go ⟨by decide +kernel, by kernel_rfl⟩ ?_)); (all_goals (conv => whnf))
   all_goals (refine NEnd.eq ?_; (repeat' (first | exact leW_refl _ | refine And.intro ?_ ?_ | exact rfl)))
  ·rw [hq] at hB
   have hxy : x = y := by simpa using hq
   (repeat' ((conv => whnf); first | refine NBr.yes ?_ | refine NBr.no ?_ | refine NBr.pos (by assumption) ?_ | refine NIdx.tab (fun _ => rfl) hx ?_ | refine NIdx.tab (fun _ => rfl) hy ?_ | refine NCall.eq (hB) (by first | rfl | (simp only [AV.gives, AV.give, un_bytesD]; first | done | rfl)) ?_ | (with_reducible refine NInt.i64 ?_) | refine NFact.go ⟨by decide +kernel, by kernel_rfl⟩ ?_)); (all_goals (conv => whnf))
   refine ⟨i + 1, ⟨by omega, by omega, take_eq ht hx (hxy ▸ hy)⟩, by omega, ?_⟩
   ((repeat' (first | exact trivial | exact leW_refl _ | refine And.intro ?_ ?_)))
 ·by_cases he : a.length = b.length
  ·have := eq_end ht hik hi hj he
   subst this
   have g1 : decide ((i : Int) < a.length) = false := decide_eq_false (by omega)
   rw [decide_eq_true rfl]
   (repeat' ((conv => whnf); first | refine NBr.no ?_ | refine NBr.neg (by assumption) ?_)); (all_goals (conv => whnf))
   all_goals (refine NEnd.eq ?_; (repeat' (first | refine And.intro ?_ ?_ | exact rfl)); (all_goals (conv => whnf)))
   all_goals simp
  ·rw [decide_eq_false (fun e => he (by rw [e]))]
   have g3 : ((a.length : Int) == b.length) = false := by rw [beq_eq_false_iff_ne]; omega
   by_cases k1 : i < a.length
   ·have g1 : decide ((i : Int) < a.length) = true := decide_eq_true (by omega)
    have g2 : decide ((i : Int) < b.length) = false := decide_eq_false (by omega)
    (repeat' ((conv => whnf); first | refine NBr.yes ?_ | refine NBr.pos (by assumption) ?_ | refine NBr.neg (by assumption) ?_)); (all_goals (conv => whnf))
    all_goals (refine NEnd.eq ?_; (repeat' (first | refine And.intro ?_ ?_ | exact rfl)); (all_goals (conv => whnf)))
    all_goals exact g3
   ·have g1 : decide ((i : Int) < a.length) = false := decide_eq_false (by omega)
    (repeat' ((conv => whnf); first | refine NBr.no ?_ | refine NBr.neg (by assumption) ?_)); (all_goals (conv => whnf))
    all_goals (refine NEnd.eq ?_; (repeat' (first | refine And.intro ?_ ?_ | exact rfl)); (all_goals (conv => whnf)))
    all_goals exact g3
structure Mu.md (m : Mu) : Prop where
 o : m.oid.length ≤ 1000000000
 n : m.vs.length ≤ 1000000
 v : ∀ p ∈ m.vs, p.length ≤ 1000000000
deriving instance DecidableEq for Mu
theorem mu_eq {m k : Mu} (h1 : m.oid = k.oid) (h2 : m.vs = k.vs) : m = k := by cases m; cases k; cases h1; cases h2; rfl
theorem multis_any (a b : List Mu) (ha : a.length ≤ 1000000 ∧ ∀ p ∈ a, p.md) (hb : b.length ≤ 1000000 ∧ ∀ p ∈ b, p.md) : ACalls Tryz.prog 32 [.d (musD a), .d (musD b)] (fun r => r = bv (decide (a = b))) := by
 obtain ⟨ha, hpa⟩ := ha
 obtain ⟨hb, hpb⟩ := hb
 refine acalls_vc 48 _ tabOk mixed Tryz.func32 rfl (by kernel_rfl) rfl rfl rfl rfl fun W0 fp0 z0 => ?_
 (all_goals (conv => whnf))
 refine NLoop.go (fun i : Nat => i ≤ a.length ∧ i ≤ b.length ∧ a.take i = b.take i) (fun i => a.length - i) (fun i => ⟨[(0, .d (musD a)), (1, .d (musD b)), (5, iv i)], [], []⟩) 0 ⟨by omega, by omega, rfl⟩ (by ((repeat' (first | exact trivial | exact leW_refl _ | refine And.intro ?_ ?_)))) ?_
 rintro i ⟨hi, hj, ht⟩
 by_cases hik : i < a.length ∧ i < b.length
 ·obtain ⟨k1, k2⟩ := hik
  have g1 : decide ((i : Int) < a.length) = true := decide_eq_true (by omega)
  have g2 : decide ((i : Int) < b.length) = true := decide_eq_true (by omega)
  obtain ⟨x, hx⟩ : ∃ p, a[i]? = some p := ⟨_, List.getElem?_eq_getElem k1⟩
  obtain ⟨y, hy⟩ : ∃ p, b[i]? = some p := ⟨_, List.getElem?_eq_getElem k2⟩
  obtain ⟨x1, x2, x3⟩ := hpa x (List.mem_of_getElem? hx)
  obtain ⟨y1, y2, y3⟩ := hpb y (List.mem_of_getElem? hy)
  have hS := slices_any x.vs y.vs ⟨x2, x3⟩ ⟨y2, y3⟩
  cases hq : (x.oid == y.oid)
  ·have hne : (!(x.oid == y.oid)) = true := by rw [hq]; rfl
   rw [decide_eq_false (ne_at hx hy (fun e => by rw [e] at hq; simp at hq))]
   (repeat' ((conv => whnf); first | refine NBr.yes ?_ | refine NBr.pos (by assumption) ?_ | refine NIdx.tab (fun _ => rfl) hx ?_ | refine NIdx.tab (fun _ => rfl) hy ?_ | refine NFact.go ⟨by decide +kernel, by kernel_rfl⟩ ?_)); (all_goals (conv => whnf))
   all_goals (refine NEnd.eq ?_; (repeat' (first | exact leW_refl _ | refine And.intro ?_ ?_ | exact rfl)))
  ·have hne : (!(x.oid == y.oid)) = false := by rw [hq]; rfl
   have hxy : x.oid = y.oid := by simpa using hq
   by_cases hv : x.vs = y.vs
   ·rw [decide_eq_true hv] at hS
    have he := mu_eq hxy hv
    (repeat' ((conv => whnf); first | refine NBr.yes ?_ | refine NBr.no ?_ | refine NBr.pos (by assumption) ?_ | refine NBr.neg (by assumption) ?_ | refine NIdx.tab (fun _ => rfl) hx ?_ | refine NIdx.tab (fun _ => rfl) hy ?_ | refine NCall.eq (hS) (by first | rfl | (simp only [AV.gives, AV.give, un_partsD]; first | done | rfl)) ?_ | (with_reducible refine NInt.i64 ?_) | refine NFact.go ⟨by decide +kernel, by kernel_rfl⟩ ?_)); (all_goals (conv => whnf))
    refine ⟨i + 1, ⟨by omega, by omega, take_eq ht hx (he ▸ hy)⟩, by omega, ?_⟩
    ((repeat' (first | exact trivial | exact leW_refl _ | refine And.intro ?_ ?_)))
   ·rw [decide_eq_false hv] at hS
    rw [decide_eq_false (ne_at hx hy (fun e => hv (by rw [e])))]
    (repeat' ((conv => whnf); first | refine NBr.yes ?_ | refine NBr.pos (by assumption) ?_ | refine NBr.neg (by assumption) ?_ | refine NIdx.tab (fun _ => rfl) hx ?_ | refine NIdx.tab (fun _ => rfl) hy ?_ | refine NCall.eq (hS) (by first | rfl | (simp only [AV.gives, AV.give, un_partsD]; first | done | rfl)) ?_ | refine NFact.go ⟨by decide +kernel, by kernel_rfl⟩ ?_)); (all_goals (conv => whnf))
    all_goals (refine NEnd.eq ?_; (repeat' (first | exact leW_refl _ | refine And.intro ?_ ?_ | exact rfl)))
 ·by_cases he : a.length = b.length
  ·have := eq_end ht hik hi hj he
   subst this
   have g1 : decide ((i : Int) < a.length) = false := decide_eq_false (by omega)
   rw [decide_eq_true rfl]
   (repeat' ((conv => whnf); first | refine NBr.no ?_ | refine NBr.neg (by assumption) ?_)); (all_goals (conv => whnf))
   all_goals (refine NEnd.eq ?_; (repeat' (first | refine And.intro ?_ ?_ | exact rfl)); (all_goals (conv => whnf)))
   all_goals simp
  ·rw [decide_eq_false (fun e => he (by rw [e]))]
   have g3 : ((a.length : Int) == b.length) = false := by rw [beq_eq_false_iff_ne]; omega
   by_cases k1 : i < a.length
   ·have g1 : decide ((i : Int) < a.length) = true := decide_eq_true (by omega)
    have g2 : decide ((i : Int) < b.length) = false := decide_eq_false (by omega)
    (repeat' ((conv => whnf); first | refine NBr.yes ?_ | refine NBr.pos (by assumption) ?_ | refine NBr.neg (by assumption) ?_)); (all_goals (conv => whnf))
    all_goals (refine NEnd.eq ?_; (repeat' (first | refine And.intro ?_ ?_ | exact rfl)); (all_goals (conv => whnf)))
    all_goals exact g3
   ·have g1 : decide ((i : Int) < a.length) = false := decide_eq_false (by omega)
    (repeat' ((conv => whnf); first | refine NBr.no ?_ | refine NBr.neg (by assumption) ?_)); (all_goals (conv => whnf))
    all_goals (refine NEnd.eq ?_; (repeat' (first | refine And.intro ?_ ?_ | exact rfl)); (all_goals (conv => whnf)))
    all_goals exact g3
end Go.Proofs.YtblabcopgeobgaaGreatDoor

namespace Go.Proofs.YtblabcopgeobgaaGreatDoor
open Go.RowKit
def RdE (rd : List UInt8 → TR) : Prop := ∀ l t sz, rd l = ⟨[t], sz, 0, 0⟩ → t.ok ∧ t.enc = l.take sz
theorem kids_enc {rd : List UInt8 → TR} (hr : RdT rd) (he : RdE rd) : ∀ (f : Nat) (l : List UInt8), l.length ≤ f → (kidsT rd l).code = 0 → Tr.oks (kidsT rd l).l ∧ Tr.encs (kidsT rd l).l = l := by
 intro f
 induction f with
 | zero =>
   intro l h _
   have : l = [] := List.eq_nil_of_length_eq_zero (by omega)
   subst this
   rw [kidsT_end rfl, Tr.oks, Tr.encs]
   exact ⟨trivial, rfl⟩
 | succ f ih =>
   intro l h h0
   by_cases h3 : l.length = 0
   ·have : l = [] := List.eq_nil_of_length_eq_zero h3
    subst this
    rw [kidsT_end rfl, Tr.oks, Tr.encs]
    exact ⟨trivial, rfl⟩
   ·by_cases h4 : (rd l).code = 0
    ·obtain ⟨t, sz, e1, e2, e3⟩ := (hr l).1 h4
     obtain ⟨k1, k2⟩ := he l t sz e1
     have hs := kidsT_step hr h3 e1
     rw [hs] at h0 ⊢
     have h5 : (kidsT rd (l.drop sz)).code = 0 := by
      by_cases h6 : (kidsT rd (l.drop sz)).code = 0
      ·exact h6
      ·rw [joinT_bad h6] at h0; exact absurd h0 h6
     obtain ⟨q1, q2⟩ := ih (l.drop sz) (by rw [List.length_drop]; omega) h5
     rw [joinT_ok h5, Tr.oks, Tr.encs, q2, k2, List.take_append_drop]
     exact ⟨⟨k1, q1⟩, rfl⟩
    ·rw [kidsT_bad h3 h4] at h0; exact absurd h0 h4
theorem rT_enc : ∀ d, RdE (rT d) := by
 intro d
 induction d with
 | zero => intro l t sz h; simp [rT, TR.bad] at h
 | succ d ih =>
   intro l t sz h
   have hB := rhS_bounds l
   have hI := rhS_inv (l := l)
   simp only [rT] at h
   generalize hh : rhS l = q at hB hI h
   obtain ⟨c1, c2, c3, c4, c5, c6, c7⟩ := hB
   unfold rTH at h
   by_cases k1 : q.code ≠ 0
   ·rw [if_pos k1] at h; simp [TR.bad] at h
   rw [if_neg k1] at h
   by_cases k2 : l.length < q.size + q.len
   ·rw [if_pos k2] at h; simp [TR.bad] at h
   rw [if_neg k2] at h
   have hI' := hI (Decidable.not_not.1 k1) (by omega)
   by_cases k3 : q.k = false
   ·rw [if_pos k3] at h
    simp only [TR.mk.injEq, List.cons.injEq, and_true] at h
    obtain ⟨rfl, rfl⟩ := h
    rw [hI', k3, Tr.ok, Tr.enc, Tr.encs, Tr.oks, List.append_nil]
    exact ⟨⟨by omega, by omega, trivial⟩, rfl⟩
   rw [if_neg k3] at h
   by_cases k4 : (kidsT (rT d) ((l.drop q.size).take q.len)).code ≠ 0
   ·rw [if_pos k4] at h; simp [TR.bad] at h
   rw [if_neg k4] at h
   simp only [TR.mk.injEq, List.cons.injEq, and_true] at h
   obtain ⟨rfl, rfl⟩ := h
   obtain ⟨q1, q2⟩ := kids_enc (rT_rd d) ih _ _ (Nat.le_refl _) (Decidable.not_not.1 k4)
   have kt : q.k = true := by cases hk : q.k with | true => rfl | false => exact absurd hk k3
   rw [hI', kt, Tr.ok, Tr.enc, q2, List.nil_append]
   exact ⟨⟨by omega, by omega, q1⟩, rfl⟩
def Mono (rd rd' : List UInt8 → TR) : Prop := ∀ l, (rd l).code = 0 → rd' l = rd l
theorem kids_mono {rd rd' : List UInt8 → TR} (hr : RdT rd) (hr' : RdT rd') (hm : Mono rd rd') : ∀ (f : Nat) (l : List UInt8), l.length ≤ f → (kidsT rd l).code = 0 → kidsT rd' l = kidsT rd l := by
 intro f
 induction f with
 | zero => intro l h _; rw [kidsT_end (by omega), kidsT_end (by omega)]
 | succ f ih =>
   intro l h h0
   by_cases h3 : l.length = 0
   ·rw [kidsT_end h3, kidsT_end h3]
   ·by_cases h4 : (rd l).code = 0
    ·obtain ⟨t, sz, e1, e2, e3⟩ := (hr l).1 h4
     have hs := kidsT_step hr h3 e1
     have hs' := kidsT_step hr' h3 ((hm l h4).trans e1)
     rw [hs] at h0
     have h5 : (kidsT rd (l.drop sz)).code = 0 := by
      by_cases h6 : (kidsT rd (l.drop sz)).code = 0
      ·exact h6
      ·rw [joinT_bad h6] at h0; exact absurd h0 h6
     rw [hs, hs', ih (l.drop sz) (by rw [List.length_drop]; omega) h5]
    ·rw [kidsT_bad h3 h4] at h0; exact absurd h0 h4
theorem rT_step : ∀ d, Mono (rT d) (rT (d + 1)) := by
 intro d
 induction d with
 | zero => intro l h; simp [rT, TR.bad] at h
 | succ d ih =>
   intro l h
   rw [rT] at h ⊢
   rw [rT]
   generalize rhS l = q at h ⊢
   unfold rTH at h ⊢
   by_cases k1 : q.code ≠ 0
   ·rw [if_pos k1] at h; exact absurd h k1
   rw [if_neg k1] at h ⊢
   rw [if_neg k1]
   by_cases k2 : l.length < q.size + q.len
   ·rw [if_pos k2] at h; cases h
   rw [if_neg k2] at h ⊢
   rw [if_neg k2]
   by_cases k3 : q.k = false
   ·rw [if_pos k3, if_pos k3]
   rw [if_neg k3] at h ⊢
   rw [if_neg k3]
   by_cases k4 : (kidsT (rT d) ((l.drop q.size).take q.len)).code ≠ 0
   ·rw [if_pos k4] at h; exact absurd h k4
   have hk := kids_mono (rT_rd d) (rT_rd (d + 1)) ih _ _ (Nat.le_refl _) (Decidable.not_not.1 k4)
   rw [hk]
theorem rT_mono {d e : Nat} (h : d ≤ e) : Mono (rT d) (rT e) := by
 obtain ⟨k, rfl⟩ := Nat.exists_eq_add_of_le h
 induction k with
 | zero => intro l _; rfl
 | succ k ih =>
   intro l h0
   have h1 := ih (by omega) l h0
   exact (rT_step (d + k) l (by rw [h1]; exact h0)).trans h1
end Go.Proofs.YtblabcopgeobgaaGreatDoor

namespace Go.Proofs.YtblabcopgeobgaaGreatDoor
open Go.RowKit
def trD (d : Nat) (p : List UInt8) : Tr := (rT d p).l.headD .zero
def One (d : Nat) (p : List UInt8) : Prop := rT d p = ⟨[trD d p], p.length, 0, 0⟩
theorem one_of {d : Nat} {p : List UInt8} {t : Tr} (h : rT d p = ⟨[t], p.length, 0, 0⟩) : One d p ∧ trD d p = t := by
 have : trD d p = t := by unfold trD; rw [h]; rfl
 exact ⟨by unfold One; rw [this]; exact h, this⟩
theorem One.enc {d : Nat} {p : List UInt8} (h : One d p) : (trD d p).ok ∧ (trD d p).enc = p := by
 have := rT_enc d p _ _ h
 rw [List.take_length] at this; exact this
theorem One.mono {d e : Nat} {p : List UInt8} (h : One d p) (hd : d ≤ e) : One e p ∧ trD e p = trD d p := by
 have h0 : (rT d p).code = 0 := by rw [h]
 exact one_of ((rT_mono hd p h0).trans h)
theorem open_one {p : List UInt8} (h : openI p = true) : One 16 p := by
 rw [open_eq] at h
 unfold openB at h
 obtain ⟨t, -, h2⟩ := (withinT_facts 16 p).1 (by simpa using h)
 exact (one_of h2).1
theorem One.tv {d : Nat} {p : List UInt8} (h : One d p) (hl : p.length ≤ 2147483647) : ∃ t : Tv, t.ok ∧ p = t.enc := by
 obtain ⟨h1, h2⟩ := h.enc
 generalize trD d p = t at h1 h2
 obtain ⟨c, n, k, b, ks⟩ := t
 rw [Tr.ok] at h1
 rw [Tr.enc] at h2
 refine ⟨⟨c, n, k, b ++ Tr.encs ks⟩, ⟨h1.1, h1.2.1, ?_⟩, h2.symm⟩
 have := congrArg List.length h2
 rw [putS_len] at this
 show (b ++ Tr.encs ks).length ≤ _
 omega
theorem One.more {d : Nat} {p : List UInt8} (h : One d p) (hl : p.length ≤ 2147483647) (r : List UInt8) : rT d (p ++ r) = ⟨[trD d p], p.length, 0, 0⟩ := by
 obtain ⟨t, ht, he⟩ := h.tv hl
 have hr : rhS (p ++ r) = rhS p := by
  rw [he, Tv.rh ht]
  have := Tv.rh ht []
  rw [List.append_nil] at this
  exact this.symm
 have hp : rhS p = ⟨t.c, t.n, t.k, t.v.length, t.hd, 0, 0⟩ := by
  have := Tv.rh ht []
  rw [List.append_nil, ← he] at this; exact this
 have hlen : p.length = t.hd + t.v.length := by rw [he]; exact t.len
 cases d with
 | zero => unfold One at h; simp [rT, TR.bad] at h
 | succ d =>
   unfold One at h
   rw [← h, rT, rT, hr, hp]
   unfold rTH
   simp only
   have e1 : ((p ++ r).drop t.hd).take t.v.length = (p.drop t.hd).take t.v.length := by
    rw [List.drop_append_of_le_length (by omega), List.take_append_of_le_length (by rw [List.length_drop]; omega)]
   rw [if_neg (by simp), if_neg (show ¬ (p ++ r).length < t.hd + t.v.length by rw [List.length_append]; omega), if_neg (show ¬ p.length < t.hd + t.v.length by omega), e1]
   exact (if_neg (fun h => h rfl)).symm
theorem kids_cat (d : Nat) : ∀ (ps : List (List UInt8)), (∀ p ∈ ps, One d p ∧ p.length ≤ 2147483647) → kidsT (rT d) ps.flatten = ⟨ps.map (trD d), 0, 0, 0⟩
 | [], _ => kidsT_end rfl
 | p :: ps, h => by
   obtain ⟨h1, h2⟩ := h p (by simp)
   have hm := h1.more h2 ps.flatten
   have ih := kids_cat d ps fun q hq => h q (by simp [hq])
   have hpos : p.length ≠ 0 := by
    obtain ⟨t, sz, e1, e2, e3⟩ := (rT_rd d p).1 (by rw [h1])
    omega
   rw [List.flatten_cons, kidsT_step (rT_rd d) (by rw [List.length_append]; omega) hm, List.drop_left, ih, joinT_ok rfl]
   rfl
theorem one_con {d c n : Nat} (ps : List (List UInt8)) (hc : c ≤ 3) (hn : n ≤ 30) (h : ∀ p ∈ ps, One d p ∧ p.length ≤ 2147483647) (hl : ps.flatten.length ≤ 2147483600) : One (d + 1) (encS c n true ps.flatten) ∧ trD (d + 1) (encS c n true ps.flatten) = .mk c n true [] (ps.map (trD d)) := by
 obtain ⟨t, ht⟩ : ∃ t : Tv, t = ⟨c, n, true, ps.flatten⟩ := ⟨_, rfl⟩
 have hOk : t.ok := by subst ht; exact ⟨hc, hn, by show ps.flatten.length ≤ _; omega⟩
 have he : encS c n true ps.flatten = t.enc := by subst ht; rfl
 have hv : t.v = ps.flatten := by subst ht; rfl
 have hr := Tv.rh hOk []
 rw [List.append_nil] at hr
 have hlen := t.len
 refine one_of ?_
 rw [he, rT, hr]
 unfold rTH
 simp only
 rw [if_neg (by simp), if_neg (by omega), if_neg (by subst ht; simp), t.body, List.take_length, hv, kids_cat d ps h, if_neg (by simp)]
 subst ht
 simp only [TR.mk.injEq, and_true, true_and]
 rw [hlen]
theorem one_prim {d c n : Nat} (l : List UInt8) (hc : c ≤ 3) (hn : n ≤ 30) (hl : l.length ≤ 2147483600) : One (d + 1) (encS c n false l) ∧ trD (d + 1) (encS c n false l) = .mk c n false l [] := by
 obtain ⟨t, ht⟩ : ∃ t : Tv, t = ⟨c, n, false, l⟩ := ⟨_, rfl⟩
 have hOk : t.ok := by subst ht; exact ⟨hc, hn, by show l.length ≤ _; omega⟩
 have he : encS c n false l = t.enc := by subst ht; rfl
 have hv : t.v = l := by subst ht; rfl
 have hr := Tv.rh hOk []
 rw [List.append_nil] at hr
 have hlen := t.len
 refine one_of ?_
 rw [he, rT, hr]
 unfold rTH
 simp only
 rw [if_neg (by simp), if_neg (by omega), if_pos (by subst ht; rfl), t.body, List.take_length, hv]
 subst ht
 simp only [TR.mk.injEq, and_true, true_and]
 rw [hlen]
theorem mu_eq' {a : List UInt8} {b : List (List UInt8)} {m : Mu} (h1 : a = m.oid) (h2 : b = m.vs) : (⟨a, b⟩ : Mu) = m := by cases m; cases h1; cases h2; rfl
def muL' (v : List Mu) : List UInt8 := encS 0 16 true (v.map muE).flatten
theorem muV_facts {m : Mu} (h : muV m = true) : oidV m.oid = true ∧ m.vs.length > 0 ∧ ordB m.vs = true ∧ m.vs.all openI = true := by
 rw [muV_and] at h
 simp only [Bool.and_eq_true, decide_eq_true_eq] at h
 exact ⟨h.1, h.2.1.1, h.2.1.2, h.2.2⟩
theorem one_mu {m : Mu} (h : muV m = true) (hs : m.sm) : One 18 (muE m) ∧ rdMu (trD 18 (muE m)) = m ∧ (muE m).length ≤ 2147483600 := by
 obtain ⟨h1, h2, h3, h4⟩ := muV_facts h
 have hle := muE_len hs
 have k1 := oidE_len m.oid
 have o1 := hs.o
 have o3 := hs.v
 have hv : ∀ p ∈ m.vs, One 16 p ∧ p.length ≤ 2147483647 := fun p hp => ⟨open_one (List.all_eq_true.1 h4 p hp), by have := flat_mem hp; omega⟩
 obtain ⟨a1, a2⟩ := one_con (d := 16) (c := 0) (n := 17) m.vs (by omega) (by omega) hv (by omega)
 obtain ⟨b1, b2⟩ := one_prim (d := 16) (c := 0) (n := 6) (oidE m.oid) (by omega) (by omega) (by omega)
 have k2 := encS_len 0 6 false (oidE m.oid) (by omega)
 have k3 := encS_len 0 17 true m.vs.flatten (by omega)
 have e : muE m = encS 0 16 true [encS 0 6 false (oidE m.oid), encS 0 17 true m.vs.flatten].flatten := by unfold muE; simp
 obtain ⟨c1, c2⟩ := one_con (d := 17) (c := 0) (n := 16) [encS 0 6 false (oidE m.oid), encS 0 17 true m.vs.flatten] (by omega) (by omega) (fun p hp => by
  rcases List.mem_cons.1 hp with rfl | hp
  ·exact ⟨b1, by omega⟩
  ·rw [List.mem_singleton.1 hp]; exact ⟨a1, by omega⟩) (by simp; omega)
 rw [← e] at c1 c2
 refine ⟨c1, ?_, by omega⟩
 rw [c2]
 show (⟨odT (trD 17 (encS 0 6 false (oidE m.oid))).v, (trD 17 (encS 0 17 true m.vs.flatten)).ks.map Tr.enc⟩ : Mu) = m
 rw [b2, a2]
 refine mu_eq' (od_enc h1).1 ?_
 show (m.vs.map (trD 16)).map Tr.enc = m.vs
 rw [List.map_map]
 conv => rhs; rw [← List.map_id m.vs]
 exact List.map_congr_left fun p hp => (hv p hp).1.enc.2
theorem read_back {v : List Mu} (h : v.all muV = true) (hs : ∀ m ∈ v, m.sm) (hn : v.length ≤ 2000) : (deepT (muL' v)).ks.map rdMu = v := by
 have hq := sumE_len hs
 have hm : ∀ p ∈ v.map muE, One 18 p ∧ p.length ≤ 2147483647 := fun p hp => by
  obtain ⟨m, hmm, rfl⟩ := List.mem_map.1 hp
  obtain ⟨a, b, c⟩ := one_mu (List.all_eq_true.1 h m hmm) (hs m hmm)
  exact ⟨a, by omega⟩
 obtain ⟨c1, c2⟩ := one_con (d := 18) (c := 0) (n := 16) (v.map muE) (by omega) (by omega) hm (by omega)
 obtain ⟨d1, d2⟩ := c1.mono (e := 60) (by omega)
 have hd : deepT (muL' v) = trD 60 (muL' v) := by
  unfold deepT withinT
  have : rT 60 (muL' v) = ⟨[trD 60 (muL' v)], (muL' v).length, 0, 0⟩ := d1
  rw [this, wholeT_ok (by omega)]; rfl
 rw [hd]
 have e : trD 60 (muL' v) = .mk 0 16 true [] ((v.map muE).map (trD 18)) := d2.trans c2
 rw [e]
 show (((v.map muE).map (trD 18)).map rdMu) = v
 rw [List.map_map, List.map_map]
 conv => rhs; rw [← List.map_id v]
 exact List.map_congr_left fun m hmm => (one_mu (List.all_eq_true.1 h m hmm) (hs m hmm)).2.1
end Go.Proofs.YtblabcopgeobgaaGreatDoor

namespace Go.Proofs.YtblabcopgeobgaaGreatDoor
open Go.RowKit
theorem els_map : ∀ (ts : List Tv) (b pre : List UInt8) (en : Nat), b.take en = pre ++ tvsE ts → en ≤ b.length → (els pre.length ts).map (elO b) = ts.map Tv.enc
 | [], _, _, _, _, _ => rfl
 | t :: r, b, pre, en, h, hen => by
   have h' : b.take en = (pre ++ t.enc) ++ tvsE r := by rw [h, tvsE_cons, List.append_assoc]
   have ih := els_map r b (pre ++ t.enc) en h' hen
   rw [List.length_append] at ih
   rw [els, List.map_cons, ih, List.map_cons]
   congr 1
   unfold elO Tv.el
   simp only
   have hl := congrArg List.length h
   rw [List.length_take, tvsE_cons, List.length_append, List.length_append] at hl
   have e1 : (b.drop pre.length).take (pre.length + t.enc.length - pre.length) = ((b.take en).drop pre.length).take t.enc.length := by
    rw [List.drop_take, List.take_take]; congr 1; omega
   rw [e1, h, List.drop_left, tvsE_cons, List.take_left]
theorem parts_put {c n : Nat} (ts : List Tv) (hc : c ≤ 3) (hn : n ≤ 30) (ht : ∀ t ∈ ts, t.ok) (hl : (tvsE ts).length ≤ 2147483600) : ∃ h : Nat, partsS (encS c n true (tvsE ts)) c n = ⟨els h ts, 0, 0⟩ ∧ (els h ts).map (elO (encS c n true (tvsE ts))) = ts.map Tv.enc := by
 obtain ⟨t, e⟩ : ∃ t : Tv, t = ⟨c, n, true, tvsE ts⟩ := ⟨_, rfl⟩
 have hOk : t.ok := by subst e; exact ⟨hc, hn, by show (tvsE ts).length ≤ _; omega⟩
 have he : encS c n true (tvsE ts) = t.enc := by subst e; rfl
 have hv : t.v = tvsE ts := by subst e; rfl
 have hi : (t.el 0).isB c n true = true := by subst e; simp [El.isB, Tv.el]
 have hlen := t.len
 have hpre : (t.enc.take t.hd).length = t.hd := by rw [List.length_take]; omega
 have hcat : t.enc.take t.enc.length = t.enc.take t.hd ++ tvsE ts := by
  rw [List.take_length, ← hv, ← t.body, List.take_append_drop]
 refine ⟨t.hd, ?_, ?_⟩
 ·rw [he]
  unfold partsS
  rw [oneS_put hOk, if_neg (by simp)]
  simp only [hi]
  rw [if_neg (by simp)]
  show listS t.enc (0 + t.hd) (0 + t.enc.length) = _
  have := listS_put ts t.enc (t.enc.take t.hd) t.enc.length ht hcat (Nat.le_refl _)
  rw [hpre] at this
  rw [Nat.zero_add, Nat.zero_add, this]
 ·rw [he]
  have := els_map ts t.enc (t.enc.take t.hd) t.enc.length hcat (Nat.le_refl _)
  rwa [hpre] at this
theorem parts_inv {b : List UInt8} {c n : Nat} (h : (partsS b c n).code = 0) : ∃ ts : List Tv, (∀ t ∈ ts, t.ok) ∧ b = encS c n true (tvsE ts) ∧ c ≤ 3 ∧ n ≤ 30 ∧ (tvsE ts).length ≤ 2147483647 := by
 unfold partsS at h
 by_cases h1 : (oneS b).code ≠ 0
 ·rw [if_pos h1] at h; exact absurd h h1
 rw [if_neg h1] at h
 by_cases h2 : (oneS b).x.isB c n true = false
 ·rw [if_pos h2] at h; cases h
 rw [if_neg h2] at h
 obtain ⟨t, t1, t2, t3⟩ := oneS_inv (Decidable.not_not.1 h1)
 rw [t2] at h h2
 have hb : (t.el 0).isB c n true = true := by simpa using h2
 unfold El.isB Tv.el at hb
 simp only [Bool.and_eq_true, beq_iff_eq] at hb
 obtain ⟨⟨b1, b2⟩, b3⟩ := hb
 have hlen := t.len
 have h' : (listS b (0 + t.hd) (0 + t.enc.length)).code = 0 := h
 rw [Nat.zero_add, Nat.zero_add] at h'
 obtain ⟨ts, q1, -, q3⟩ := listS_inv _ b t.hd t.enc.length (Nat.le_refl _) (by omega) (by rw [t3]; omega) h'
 have hv : (b.drop t.hd).take (t.enc.length - t.hd) = t.v := by
  rw [t3, t.body]; exact List.take_of_length_le (by omega)
 rw [hv] at q3
 have a1 := t1.c
 have a2 := t1.n
 have a3 := t1.v
 refine ⟨ts, q1, ?_, by omega, by omega, by rw [← q3]; exact a3⟩
 rw [t3, Tv.enc, q3]
 rw [b1, b2, b3]
def parS : List (List UInt8) → Option (List Mu)
 | [] => some []
 | p :: r => match vMu p with
   | none => none
   | some m => (parS r).map (m :: ·)
theorem parL_fst (b : List UInt8) : ∀ l : List El, (parL b l).1 = parS (l.map (elO b))
 | [] => rfl
 | x :: r => by
   have ih := parL_fst b r
   rw [parL, List.map_cons, parS]
   cases hv : vMu (elO b x) with
   | none => rfl
   | some m =>
     simp only
     rw [← ih]
     cases hp : parL b r with
     | mk o p => cases o <;> rfl
theorem bod_eq (b : List UInt8) (a : Nat) (t : Tv) : bod b (t.el a) = (elO b (t.el a)).drop t.hd := by
 unfold bod elO Tv.el
 simp only
 rw [List.drop_take, List.drop_drop]
 congr 1
 omega
theorem spl_put {n : Nat} (ts : List Tv) (hn : n ≤ 30) (ht : ∀ t ∈ ts, t.ok) (hl : (tvsE ts).length ≤ 2147483600) : (partsS (encS 0 n true (tvsE ts)) 0 n).code = 0 ∧ spl (encS 0 n true (tvsE ts)) n = ts.map Tv.enc := by
 obtain ⟨h, e1, e2⟩ := parts_put (c := 0) ts (by omega) hn ht hl
 unfold spl
 rw [e1]
 exact ⟨rfl, e2⟩
theorem pair_put (x y : Tv) (hx : x.ok) (hy : y.ok) (hl : (tvsE [x, y]).length ≤ 2147483600) : pairV (encS 0 16 true (tvsE [x, y])) = if (x.el 0).isB 0 6 false = true ∧ odC x.v = 0 then some (odT x.v, y.enc) else none := by
 obtain ⟨h, e1, e2⟩ := parts_put (c := 0) (n := 16) [x, y] (by omega) (by omega) (fun t ht => by
  rcases List.mem_cons.1 ht with rfl | ht
  ·exact hx
  ·rw [List.mem_singleton.1 ht]; exact hy) hl
 unfold pairV
 rw [e1]
 simp only [els, List.map_cons, List.map_nil, List.cons.injEq, and_true] at e2
 show (if (x.el h).isB 0 6 false = true ∧ odC (bod _ (x.el h)) = 0 then some (odT (bod _ (x.el h)), elO _ (y.el (h + x.enc.length))) else none) = _
 rw [bod_eq, e2.1, x.body, e2.2]
 rfl
end Go.Proofs.YtblabcopgeobgaaGreatDoor

namespace Go.Proofs.YtblabcopgeobgaaGreatDoor
open Go.RowKit
theorem list_tv : ∀ {l : List (List UInt8)}, (∀ p ∈ l, ∃ t : Tv, t.ok ∧ p = t.enc) → ∃ ts : List Tv, (∀ t ∈ ts, t.ok) ∧ l = ts.map Tv.enc
 | [], _ => ⟨[], by simp, rfl⟩
 | p :: r, h => by
   obtain ⟨t, h1, h2⟩ := h p (by simp)
   obtain ⟨ts, h3, h4⟩ := list_tv (l := r) fun q hq => h q (by simp [hq])
   exact ⟨t :: ts, fun u hu => by
    rcases List.mem_cons.1 hu with rfl | hu
    ·exact h1
    ·exact h3 u hu, by rw [List.map_cons, h2, h4]⟩
theorem tvsE_map (ts : List Tv) : tvsE ts = (ts.map Tv.enc).flatten := List.flatMap_def ..
theorem vMu_put {m : Mu} (h : muV m = true) (hs : m.sm) : vMu (muE m) = some m := by
 obtain ⟨h1, h2, h3, h4⟩ := muV_facts h
 have k1 := oidE_len m.oid
 have o1 := hs.o
 have o3 := hs.v
 obtain ⟨ts, t1, t2⟩ := list_tv (l := m.vs) fun p hp => (open_one (List.all_eq_true.1 h4 p hp)).tv (by have := flat_mem hp; omega)
 have hf : m.vs.flatten = tvsE ts := by rw [t2, tvsE_map]
 have o4 : (tvsE ts).length ≤ 70000 := hf ▸ o3
 obtain ⟨x, hx⟩ : ∃ x : Tv, x = ⟨0, 6, false, oidE m.oid⟩ := ⟨_, rfl⟩
 obtain ⟨y, hy⟩ : ∃ y : Tv, y = ⟨0, 17, true, tvsE ts⟩ := ⟨_, rfl⟩
 have xo : x.ok := by subst hx; exact ⟨by show (0:Nat) ≤ 3; omega, by show (6:Nat) ≤ 30; omega, by show (oidE m.oid).length ≤ _; omega⟩
 have yo : y.ok := by subst hy; exact ⟨by show (0:Nat) ≤ 3; omega, by show (17:Nat) ≤ 30; omega, by show (tvsE ts).length ≤ _; omega⟩
 have e : muE m = encS 0 16 true (tvsE [x, y]) := by
  unfold muE
  rw [hf, tvsE_cons, tvsE_cons]
  subst hx hy
  show _ = encS 0 16 true (encS 0 6 false (oidE m.oid) ++ (encS 0 17 true (tvsE ts) ++ []))
  rw [List.append_nil]
 have hl : (tvsE [x, y]).length ≤ 2147483600 := by
  have := encS_len 0 6 false (oidE m.oid) (by omega)
  have := encS_len 0 17 true (tvsE ts) (by omega)
  rw [tvsE_cons, tvsE_cons]
  subst hx hy
  show (encS 0 6 false (oidE m.oid) ++ (encS 0 17 true (tvsE ts) ++ [])).length ≤ _
  simp only [List.length_append, List.length_nil]; omega
 have hp := pair_put x y xo yo hl
 obtain ⟨e1, e2⟩ := od_enc h1
 have xv : x.v = oidE m.oid := by subst hx; rfl
 have xi : (x.el 0).isB 0 6 false = true := by subst hx; rfl
 rw [xv, if_pos ⟨xi, e2⟩, e1] at hp
 obtain ⟨s1, s2⟩ := spl_put (n := 17) ts (by omega) t1 (by omega)
 have ye : y.enc = encS 0 17 true (tvsE ts) := by subst hy; rfl
 have hok : okM y.enc = true := by
  unfold okM
  rw [ye, decide_eq_true s1, s2, ← t2]
  unfold muV at h
  simp only [Bool.and_eq_true] at h
  rw [h.2]; rfl
 unfold vMu
 rw [e, hp]
 show (if okM y.enc = true then some (⟨m.oid, spl y.enc 17⟩ : Mu) else none) = some m
 rw [if_pos hok, ye, s2, ← t2]
theorem pairE_some {b : List UInt8} {r : LR} {w : List UInt8 × List UInt8} (h : pairE b r = some w) : r.code = 0 ∧ r.l.length = 2 := by
 refine ⟨?_, ?_⟩
 ·refine Decidable.byContradiction fun hc => ?_
  rw [pair_no (.inl hc)] at h; cases h
 ·refine Decidable.byContradiction fun hc => ?_
  rw [pair_no (.inr hc)] at h; cases h
theorem els_len (a : Nat) (ts : List Tv) : (els a ts).length = ts.length := by
 induction ts generalizing a with
 | nil => rfl
 | cons t r ih => rw [els, List.length_cons, ih, List.length_cons]
theorem vMu_inv {p : List UInt8} {m : Mu} (h : vMu p = some m) (hl : p.length ≤ 100000) : muV m = true ∧ p = muE m := by
 unfold vMu at h
 cases hp : pairV p with
 | none => rw [hp] at h; cases h
 | some w =>
   obtain ⟨id, s⟩ := w
   rw [hp] at h
   have h' : (if okM s = true then some (⟨id, spl s 17⟩ : Mu) else none) = some m := h
   by_cases hk : okM s = true
   ·rw [if_pos hk] at h'
    obtain rfl := Option.some.inj h'
    obtain ⟨c0, l2⟩ := pairE_some hp
    obtain ⟨ts, t1, t2, -, -, t5⟩ := parts_inv c0
    have hlt : (tvsE ts).length ≤ 2147483600 := by
     have := congrArg List.length t2
     unfold encS at this
     rw [putS_len] at this; omega
    obtain ⟨q, e1, -⟩ := parts_put (c := 0) (n := 16) ts (by omega) (by omega) t1 hlt
    rw [← t2] at e1
    rw [e1] at l2
    have l2' : ts.length = 2 := by rw [← els_len q ts]; exact l2
    obtain ⟨x, y, rfl⟩ : ∃ x y, ts = [x, y] := by
     match ts, l2' with
     | [x, y], _ => exact ⟨x, y, rfl⟩
    have hpp := pair_put x y (t1 x (by simp)) (t1 y (by simp)) hlt
    rw [← t2, hp] at hpp
    by_cases hc : (x.el 0).isB 0 6 false = true ∧ odC x.v = 0
    ·rw [if_pos hc] at hpp
     simp only [Option.some.injEq, Prod.mk.injEq] at hpp
     obtain ⟨rfl, rfl⟩ := hpp
     unfold okM at hk
     simp only [Bool.and_eq_true, decide_eq_true_eq] at hk
     obtain ⟨k1, k2⟩ := hk
     obtain ⟨us, u1, u2, -, -, u5⟩ := parts_inv k1
     have hyl : (tvsE us).length ≤ 2147483600 := by
      have a1 := congrArg List.length u2
      have a2 := congrArg List.length t2
      unfold encS at a1 a2
      rw [putS_len] at a1 a2
      rw [tvsE_cons, tvsE_cons, List.length_append, List.length_append] at a2
      omega
     obtain ⟨s1, s2⟩ := spl_put (n := 17) us (by omega) u1 hyl
     rw [← u2] at s2
     have hd := od_dec hc.2
     have hb := hc.1
     unfold El.isB Tv.el at hb
     simp only [Bool.and_eq_true, beq_iff_eq] at hb
     obtain ⟨⟨b1, b2⟩, b3⟩ := hb
     have hxe : x.enc = encS 0 6 false x.v := by rw [Tv.enc, b1, b2, b3]
     refine ⟨?_, ?_⟩
     ·unfold muV
      rw [hd.1, k2]; rfl
     ·unfold muE
      simp only
      rw [hd.2, s2, ← tvsE_map, ← u2, ← hxe, t2, tvsE_cons, tvsE_cons]
      show encS 0 16 true (x.enc ++ (y.enc ++ [])) = _
      rw [List.append_nil]
    ·rw [if_neg hc] at hpp; cases hpp
   ·rw [if_neg hk] at h'; cases h'
end Go.Proofs.YtblabcopgeobgaaGreatDoor

namespace Go.Proofs.YtblabcopgeobgaaGreatDoor
open Go.RowKit
theorem parS_put : ∀ {v : List Mu}, v.all muV = true → (∀ m ∈ v, m.sm) → parS (v.map muE) = some v
 | [], _, _ => rfl
 | m :: r, h, hs => by
   rw [List.all_cons, Bool.and_eq_true] at h
   rw [List.map_cons, parS, vMu_put h.1 (hs m (by simp)), parS_put h.2 fun k hk => hs k (by simp [hk])]; rfl
theorem parS_inv : ∀ {ps : List (List UInt8)} {v : List Mu}, (∀ p ∈ ps, p.length ≤ 100000) → parS ps = some v → v.all muV = true ∧ ps = v.map muE
 | [], v, _, h => by
   rw [parS] at h
   obtain rfl := Option.some.inj h
   exact ⟨rfl, rfl⟩
 | p :: r, v, hl, h => by
   rw [parS] at h
   cases hv : vMu p with
   | none => rw [hv] at h; cases h
   | some m =>
     rw [hv] at h
     cases hr : parS r with
     | none => rw [hr] at h; cases h
     | some w =>
       rw [hr] at h
       obtain rfl := Option.some.inj h
       obtain ⟨k1, k2⟩ := vMu_inv hv (hl p (by simp))
       obtain ⟨k3, k4⟩ := parS_inv (fun q hq => hl q (by simp [hq])) hr
       exact ⟨by rw [List.all_cons, k1, k3]; rfl, by rw [List.map_cons, ← k2, ← k4]⟩
theorem parL_off {b : List UInt8} : ∀ {l : List El}, (∀ x ∈ l, x.at' ≤ b.length) → (parL b l).2 ≤ b.length
 | [], _ => Nat.zero_le _
 | x :: r, h => by
   have ih := parL_off (b := b) (l := r) fun y hy => h y (by simp [hy])
   rw [parL]
   cases vMu (elO b x) with
   | none => exact h x (by simp)
   | some m =>
     cases hp : parL b r with
     | mk o p =>
       rw [hp] at ih
       cases o with
       | none => exact ih
       | some ms => exact Nat.zero_le _
theorem listF_off {b : List UInt8} {en : Nat} (hen : en ≤ b.length) : ∀ (f p : Nat), p ≤ en → (listF b en f p).off ≤ b.length := by
 intro f
 induction f with
 | zero => intro p _; exact Nat.zero_le _
 | succ f ih =>
   intro p hp
   rw [listF]
   have hF := nxS_facts b p en hp hen
   split
   ·split
    ·show (nxS b p en).off ≤ _
     have := hF.2.2.1
     omega
    ·rename_i h1
     have := hF.1 (by omega)
     split
     ·exact ih _ (by omega)
     ·exact Nat.zero_le _
   ·exact Nat.zero_le _
theorem partsS_off (b : List UInt8) (c n : Nat) : (partsS b c n).off ≤ b.length := by
 have hF := oneS_facts b
 unfold partsS
 split
 ·exact hF.2.2.1
 ·split
  ·exact Nat.zero_le _
  ·exact listF_off hF.2.2.2.2.2.1 _ _ hF.2.2.2.2.2.2
theorem parA_two (b : List UInt8) (hb : b.length ≤ 30000) : (∃ v : List Mu, v ≠ [] ∧ v.all muV = true ∧ b = muL' v ∧ parA b = .tup [.d (musU v), erA 0 0]) ∨ (∃ c o : Nat, c ≠ 0 ∧ o ≤ b.length ∧ parA b = .tup [nilA, erA c o]) := by
 unfold parA
 by_cases h1 : (partsS b 0 16).code ≠ 0
 ·rw [if_pos h1]
  exact .inr ⟨_, _, h1, partsS_off b 0 16, rfl⟩
 rw [if_neg h1]
 have h1' := Decidable.not_not.1 h1
 obtain ⟨ts, t1, t2, -, -, -⟩ := parts_inv h1'
 have hlt : (tvsE ts).length ≤ 30000 := by
  have := congrArg List.length t2
  unfold encS at this
  rw [putS_len] at this; omega
 obtain ⟨q, e1, e2⟩ := parts_put (c := 0) (n := 16) ts (by omega) (by omega) t1 (by omega)
 rw [← t2] at e1 e2
 rw [e1]
 have hf := parL_fst b (els q ts)
 rw [e2] at hf
 have hoff : (parL b (els q ts)).2 ≤ b.length := parL_off fun x hx => by
  have := partsS_in (b := b) (c := 0) (n := 16) (x := x) (by rw [e1]; exact hx)
  omega
 cases hp : parL b (els q ts) with
 | mk o p =>
   rw [hp] at hf hoff
   simp only at hf hoff
   cases o with
   | none => exact .inr ⟨6, p, by omega, hoff, rfl⟩
   | some v =>
     obtain ⟨k1, k2⟩ := parS_inv (fun p hp => by
      have := flat_mem hp
      rw [← tvsE_map] at this; omega) hf.symm
     cases v with
     | nil => exact .inr ⟨1, b.length, by omega, Nat.le_refl _, rfl⟩
     | cons m r =>
       refine .inl ⟨m :: r, by simp, k1, ?_, rfl⟩
       rw [t2]
       unfold muL'
       rw [tvsE_map, k2]
theorem parA_put {v : List Mu} (h0 : v ≠ []) (h : v.all muV = true) (hs : ∀ m ∈ v, m.sm) (hn : v.length ≤ 2000) : parA (muL' v) = .tup [.d (musU v), erA 0 0] := by
 have hq := sumE_len hs
 obtain ⟨ts, t1, t2⟩ := list_tv (l := v.map muE) fun p hp => by
  obtain ⟨m, hm, rfl⟩ := List.mem_map.1 hp
  have hle := muE_len (hs m hm)
  exact (one_mu (List.all_eq_true.1 h m hm) (hs m hm)).1.tv (by omega)
 have hfl : (v.map muE).flatten = tvsE ts := by rw [t2, tvsE_map]
 obtain ⟨q, e1, e2⟩ := parts_put (c := 0) (n := 16) ts (by omega) (by omega) t1 (by rw [← hfl]; omega)
 have hf := parL_fst (encS 0 16 true (tvsE ts)) (els q ts)
 rw [e2, ← t2, parS_put h hs] at hf
 unfold parA muL'
 rw [hfl, e1, if_neg (by simp)]
 cases hp : parL (encS 0 16 true (tvsE ts)) (els q ts) with
 | mk o p =>
   rw [hp] at hf
   simp only at hf
   subst hf
   cases v with
   | nil => exact absurd rfl h0
   | cons m r => rfl
end Go.Proofs.YtblabcopgeobgaaGreatDoor

namespace Go.Proofs.YtblabcopgeobgaaGreatDoor
open Go.RowKit
theorem b128_pos (l : Bool) (n : Nat) : 1 ≤ (b128 l n).length := by
 rw [b128]; split <;> simp
theorem flat128_pos : ∀ l : List Nat, l.length ≤ (l.flatMap (b128 true)).length
 | [] => by simp
 | n :: r => by
   have := b128_pos true n
   have := flat128_pos r
   rw [List.flatMap_cons, List.length_append, List.length_cons]; omega
theorem odT_len (c : List UInt8) : (odT c).length ≤ 21 * (c.length + 1) := by
 unfold odT
 cases hd : decS c with
 | none => simp
 | some a =>
   obtain ⟨k1, k2, k3⟩ := decS_some hd
   have h1 := textL_len a k2
   obtain ⟨x, y, r, rfl, -⟩ := rightB_ne k1
   have h2 := b128_pos true (40 * x + y)
   have h3 := flat128_pos r
   rw [← k3, encO, List.length_append]
   simp only [List.length_cons] at h1
   show (textL (x :: y :: r)).length ≤ _
   omega
theorem cnt_le : ∀ {l : List (List UInt8)}, (∀ p ∈ l, 1 ≤ p.length) → l.length ≤ l.flatten.length
 | [], _ => by simp
 | p :: r, h => by
   have h1 := h p (by simp)
   have h2 := cnt_le (l := r) fun q hq => h q (by simp [hq])
   rw [List.length_cons, List.flatten_cons, List.length_append]; omega
theorem muV_sm {m : Mu} (h : muV m = true) (hl : (muE m).length ≤ 3100) : m.sm := by
 obtain ⟨h1, h2, h3, h4⟩ := muV_facts h
 have e1 := (od_enc h1).1
 have k1 : (muE m).length = 1 + (lenS (encS 0 6 false (oidE m.oid) ++ encS 0 17 true m.vs.flatten).length).length + (encS 0 6 false (oidE m.oid) ++ encS 0 17 true m.vs.flatten).length := putS_len _ _
 have k2 : (encS 0 6 false (oidE m.oid)).length = 1 + (lenS (oidE m.oid).length).length + (oidE m.oid).length := putS_len _ _
 have k3 : (encS 0 17 true m.vs.flatten).length = 1 + (lenS m.vs.flatten.length).length + m.vs.flatten.length := putS_len _ _
 rw [List.length_append] at k1
 have k4 := odT_len (oidE m.oid)
 rw [e1] at k4
 have k5 : m.vs.length ≤ m.vs.flatten.length := by
  have hp : ∀ p ∈ m.vs, 1 ≤ p.length := fun p hp => by
   have ho := open_one (List.all_eq_true.1 h4 p hp)
   have := ho.enc.2
   have h5 := (trD 16 p).enc_pos
   rw [this] at h5; exact h5
  exact cnt_le hp
 exact ⟨by omega, by omega, by omega⟩
theorem muL_sm {v : List Mu} (h : v.all muV = true) (hl : (muL' v).length ≤ 3100) : v.length ≤ 3100 ∧ ∀ m ∈ v, m.sm := by
 have k1 : (muL' v).length = 1 + (lenS (v.map muE).flatten.length).length + (v.map muE).flatten.length := putS_len _ _
 refine ⟨?_, fun m hm => muV_sm (List.all_eq_true.1 h m hm) ?_⟩
 ·have : v.length ≤ (v.map muE).flatten.length := by
   clear k1 hl h
   induction v with
   | nil => simp
   | cons m r ih =>
     have : 1 ≤ (muE m).length := by unfold muE encS; rw [putS_len]; omega
     rw [List.map_cons, List.flatten_cons, List.length_append, List.length_cons]; omega
  omega
 ·have := flat_mem (p := muE m) (l := v.map muE) (List.mem_map_of_mem hm)
  omega
end Go.Proofs.YtblabcopgeobgaaGreatDoor

namespace Go.Proofs.YtblabcopgeobgaaGreatDoor
open Go.RowKit
set_option maxRecDepth 100000
set_option maxHeartbeats 8000000
theorem Tr.enc_two (t : Tr) : 2 ≤ t.enc.length := by
 cases t with
 | mk c n k b ks =>
   rw [Tr.enc, putS_len]
   have : 1 ≤ (lenS (b ++ Tr.encs ks).length).length := by
    unfold lenS
    split
    ·rename_i h; rw [minN_small (by omega)]; simp
    ·simp
   omega
theorem Tr.encs_two : ∀ l : List Tr, 2 * l.length ≤ (Tr.encs l).length
 | [] => by simp
 | s :: r => by
   have := s.enc_two
   have := Tr.encs_two r
   rw [Tr.encs, List.length_cons, List.length_append]; omega
theorem Tr.mem_le {s : Tr} : ∀ {l : List Tr}, s ∈ l → s.enc.length ≤ (Tr.encs l).length
 | x :: r, h => by
   rw [Tr.encs, List.length_append]
   rcases List.mem_cons.1 h with rfl | h
   ·omega
   ·have := Tr.mem_le h; omega
theorem Tr.parts (t : Tr) : t.v.length + (Tr.encs t.ks).length ≤ t.enc.length := by
 cases t with
 | mk c n k b ks =>
   rw [Tr.enc, putS_len, List.length_append]
   show b.length + (Tr.encs ks).length ≤ _
   omega
theorem Tr.ok_ks {t : Tr} (h : t.ok) : Tr.oks t.ks := by
 cases t with
 | mk c n k b ks => rw [Tr.ok] at h; exact h.2.2
theorem deep_ok (b : List UInt8) : (deepT b).ok ∧ (deepT b).enc.length ≤ b.length + 2 := by
 have hW := withinT_facts 60 b
 by_cases h : (withinT 60 b).code = 0
 ·obtain ⟨t, h1, h2⟩ := hW.1 h
  have he := rT_enc 60 b _ _ h2
  rw [List.take_length] at he
  have : deepT b = t := by unfold deepT; rw [h1]; rfl
  rw [this, he.2]
  exact ⟨he.1, by omega⟩
 ·have : deepT b = .zero := by unfold deepT TR.tree; rw [(hW.2 h).1]; rfl
  rw [this, Tr.zero, Tr.ok, Tr.oks]
  exact ⟨⟨by omega, by omega, trivial⟩, by
   have : (Tr.mk 0 0 false [] []).enc.length = 2 := by decide +kernel
   rw [this]; omega⟩
theorem kid_ok {t : Tr} (h : t.ok) (i : Nat) : (t.kid i).ok ∧ (t.kid i).enc.length ≤ t.enc.length + 2 := by
 have hp := t.parts
 unfold Tr.kid
 rw [List.getD_eq_getElem?_getD]
 cases hk : t.ks[i]? with
 | none =>
   show Tr.zero.ok ∧ Tr.zero.enc.length ≤ _
   rw [Tr.zero, Tr.ok, Tr.oks]
   exact ⟨⟨by omega, by omega, trivial⟩, by
    have : (Tr.mk 0 0 false [] []).enc.length = 2 := by decide +kernel
    rw [this]; omega⟩
 | some k =>
   have hm := List.mem_of_getElem? hk
   have := Tr.mem_le hm
   exact ⟨Tr.oks_mem (Tr.ok_ks h) k hm, by show k.enc.length ≤ _; omega⟩
theorem deep_sizes {b : List UInt8} (hb : b.length ≤ 3000) : (deepT b).ks.length ≤ 2000 ∧ (∀ k ∈ (deepT b).ks, (k.kid 0).v.length ≤ 30000 ∧ (k.kid 1).ks.length ≤ 100000 ∧ ∀ g ∈ (k.kid 1).ks, g.ok ∧ g.enc.length ≤ 100000) ∧ ∀ m ∈ (deepT b).ks.map rdMu, m.sm := by
 obtain ⟨h1, h2⟩ := deep_ok b
 have hp := (deepT b).parts
 have hc := Tr.encs_two (deepT b).ks
 have hk : ∀ k ∈ (deepT b).ks, k.ok ∧ k.enc.length ≤ 3002 := fun k hk => ⟨Tr.oks_mem (Tr.ok_ks h1) k hk, by have := Tr.mem_le hk; omega⟩
 refine ⟨by omega, fun k hm => ?_, fun m hm => ?_⟩
 ·obtain ⟨k1, k2⟩ := hk k hm
  obtain ⟨a1, a2⟩ := kid_ok k1 0
  obtain ⟨b1, b2⟩ := kid_ok k1 1
  have p0 := (k.kid 0).parts
  have p1 := (k.kid 1).parts
  have c1 := Tr.encs_two (k.kid 1).ks
  exact ⟨by omega, by omega, fun g hg => ⟨Tr.oks_mem (Tr.ok_ks b1) g hg, by have := Tr.mem_le hg; omega⟩⟩
 ·obtain ⟨k, hkm, rfl⟩ := List.mem_map.1 hm
  obtain ⟨k1, k2⟩ := hk k hkm
  obtain ⟨a1, a2⟩ := kid_ok k1 0
  obtain ⟨b1, b2⟩ := kid_ok k1 1
  have p0 := (k.kid 0).parts
  have p1 := (k.kid 1).parts
  have c1 := Tr.encs_two (k.kid 1).ks
  have hl := odT_len (k.kid 0).v
  have hf : ((k.kid 1).ks.map Tr.enc).flatten = Tr.encs (k.kid 1).ks := by rw [Tr.encs_eq, List.flatMap_def]
  refine ⟨by show (odT (k.kid 0).v).length ≤ _; omega, by show ((k.kid 1).ks.map Tr.enc).length ≤ _; rw [List.length_map]; omega, ?_⟩
  show ((k.kid 1).ks.map Tr.enc).flatten.length ≤ _
  rw [hf]; omega
end Go.Proofs.YtblabcopgeobgaaGreatDoor

namespace Go.Proofs.YtblabcopgeobgaaGreatDoor
open Go.RowKit
set_option maxRecDepth 100000
set_option maxHeartbeats 8000000
def refOk (b : List UInt8) (v : List Mu) : Bool := !v.isEmpty && v.all muV && (muL' v == b)
theorem rParMu_any (b : List UInt8) (hb : b.length ≤ 3000) : ACalls Tryz.prog 36 [.d (bytesD false b)] (fun r => r = if refOk b ((deepT b).ks.map rdMu) = true then .tup [.d (musU ((deepT b).ks.map rdMu)), bv true] else .tup [nilA, bv false]) := by
 obtain ⟨s1, s2, s3⟩ := deep_sizes hb
 have hD := deep_any b (by omega)
 have hR := rReadMu_any (deepT b) (by omega) s2
 have hM := rMar_any ((deepT b).ks.map rdMu) (by rw [List.length_map]; omega) s3
 have hq := sumE_len s3
 generalize hv : (deepT b).ks.map rdMu = v at hR hM s3 hq ⊢
 have hvl : v.length ≤ 2000 := by rw [← hv, List.length_map]; omega
 generalize deepT b = t at hD hR
 generalize ((withinT 60 b).code == 0) = q at hD
 obtain ⟨c, n, k, b', ks⟩ := t
 rw [trF_eq] at hR
 rw [trN_eq rfl] at hD
 unfold refOk
 by_cases h0 : v ≠ [] ∧ v.all muV = true
 ·have e0 : (!v.isEmpty) = true := by cases v with | nil => exact absurd rfl h0.1 | cons _ _ => rfl
  rw [marM, if_pos h0] at hM
  have hB := bytesEq_any false false (muL' v) b (by
   unfold muL'
   have := encS_len 0 16 true (v.map muE).flatten (by omega)
   omega) (by omega)
  rw [e0, h0.2, Bool.true_and, Bool.true_and]
  unfold muL' at hB ⊢
  cases hc1 : (encS 0 16 true (v.map muE).flatten == b)
  all_goals
   rw [hc1] at hB
   refine acalls_vc 30 _ tabOk mixed Tryz.func36 rfl (by kernel_rfl) rfl rfl rfl rfl fun W0 fp0 z0 => ?_
   (repeat' ((conv => whnf); first | refine NBr.yes ?_ | refine NBr.no ?_ | refine NCall.eq (hD) (by first | rfl | (simp only [AV.gives, AV.give, un_bytesD]; first | done | rfl)) ?_ | refine NCall.eq (hR) (by first | rfl | (simp only [AV.gives, AV.give, D.un, un_bytesD, Tr.cellss_un]; first | done | rfl)) ?_ | refine NCall.eq (hM) (by first | rfl | (simp only [AV.gives, AV.give, un_musU]; first | done | rfl)) ?_ | refine NCall.eq (hB) (by first | rfl | (simp only [AV.gives, AV.give, un_bytesD, uns_bytesL]; first | done | rfl)) ?_)); (all_goals (conv => whnf))
   all_goals (refine NEnd.eq ?_; (repeat' (first | exact leW_refl _ | refine And.intro ?_ ?_ | exact rfl)))
 ·have e0 : (!v.isEmpty && v.all muV && (muL' v == b)) = false := by
   cases v with
   | nil => rfl
   | cons m r =>
     cases hh : (m :: r).all muV
     ·rfl
     ·exact absurd ⟨by simp, hh⟩ h0
  rw [marM, if_neg h0] at hM
  rw [e0]
  refine acalls_vc 30 _ tabOk mixed Tryz.func36 rfl (by kernel_rfl) rfl rfl rfl rfl fun W0 fp0 z0 => ?_
  (repeat' ((conv => whnf); first | refine NBr.yes ?_ | refine NCall.eq (hD) (by first | rfl | (simp only [AV.gives, AV.give, un_bytesD]; first | done | rfl)) ?_ | refine NCall.eq (hR) (by first | rfl | (simp only [AV.gives, AV.give, D.un, un_bytesD, Tr.cellss_un]; first | done | rfl)) ?_ | refine NCall.eq (hM) (by first | rfl | (simp only [AV.gives, AV.give, un_musU]; first | done | rfl)) ?_)); (all_goals (conv => whnf))
  all_goals (refine NEnd.eq ?_; (repeat' (first | exact leW_refl _ | refine And.intro ?_ ?_ | exact rfl)))
end Go.Proofs.YtblabcopgeobgaaGreatDoor

namespace Go.Proofs.YtblabcopgeobgaaGreatDoor
open Go.RowKit
set_option maxRecDepth 100000
set_option maxHeartbeats 8000000
theorem lenS_pos (n : Nat) : 1 ≤ (lenS n).length := by
 unfold lenS
 split
 ·rename_i h; rw [minN_small (by omega)]; simp
 ·simp
theorem mu_two : ∀ v : List Mu, 2 * v.length ≤ (v.map muE).flatten.length
 | [] => by simp
 | m :: r => by
   have h1 := mu_two r
   have h2 : (muE m).length = 1 + (lenS (encS 0 6 false (oidE m.oid) ++ encS 0 17 true m.vs.flatten).length).length + (encS 0 6 false (oidE m.oid) ++ encS 0 17 true m.vs.flatten).length := putS_len _ _
   have h3 := lenS_pos (encS 0 6 false (oidE m.oid) ++ encS 0 17 true m.vs.flatten).length
   rw [List.map_cons, List.flatten_cons, List.length_append, List.length_cons]; omega
theorem lawMParses (b : List UInt8) (hb : b.length ≤ big) : ACalls Tryz.prog 10 [.d (bytesD false b)] (fun r => r = bv true) := by
 have hA := awake20
 unfold big at hb
 by_cases h1 : (b.length : Int) > 3000
 ·have g1 : decide ((b.length : Int) > 3000) = true := decide_eq_true h1
  refine acalls_vc 81 _ tabOk mixed Tryz.func10 rfl (by kernel_rfl) rfl rfl rfl rfl fun W0 fp0 z0 => ?_
  (repeat' ((conv => whnf); first | refine NBr.no ?_ | refine NBr.pos (by assumption) ?_ | refine NCall.eq (hA) (by rfl) ?_)); (all_goals (conv => whnf))
  all_goals (refine NEnd.eq ?_; (repeat' (first | exact leW_refl _ | refine And.intro ?_ ?_ | exact rfl)))
 have g1 : decide ((b.length : Int) > 3000) = false := decide_eq_false h1
 have hP := parMu_any b (by omega)
 have hR := rParMu_any b (by omega)
 rcases parA_two b (by omega) with ⟨v, h0, hv, he, hp⟩ | ⟨c, o, hc0, ho, hp⟩
 ·obtain ⟨n1, n2⟩ := muL_sm hv (by rw [← he]; omega)
  have hn : v.length ≤ 2000 := by
   have k1 : (muL' v).length = 1 + (lenS (v.map muE).flatten.length).length + (v.map muE).flatten.length := putS_len _ _
   have k2 := mu_two v
   rw [← he] at k1
   omega
  have hrb := read_back hv n2 hn
  rw [← he] at hrb
  have hok : refOk b v = true := by
   unfold refOk
   rw [hv, he]
   cases v with | nil => exact absurd rfl h0 | cons _ _ => simp
  rw [hrb, if_pos hok] at hR
  rw [hp] at hP
  have hM := marMu_any v hn n2
  rw [marM, if_pos ⟨h0, hv⟩] at hM
  have hM' : ACalls Tryz.prog 30 [.d (musD v)] (fun r => r = .tup [ownB 0 5 b, iv 0]) := by rw [he]; exact hM
  have hV := valMu_any v hn n2
  rw [show (!v.isEmpty && v.all muV) = true by rw [hv]; cases v with | nil => exact absurd rfl h0 | cons _ _ => rfl] at hV
  have hmd : v.length ≤ 1000000 ∧ ∀ m ∈ v, m.md := ⟨by omega, fun m hm => by
   obtain ⟨q1, q2, q3⟩ := n2 m hm
   exact ⟨by omega, q2, fun p hp => by have := flat_mem hp; omega⟩⟩
  have hC := multis_any v v hmd hmd
  rw [decide_eq_true rfl] at hC
  have hW := wi_any 0 0 b.length (fun _ => rfl) (fun h => absurd rfl h)
  have hB := bytesEq_any false false b b (by omega) (by omega)
  rw [beq_self_eq_true] at hB
  refine acalls_vc 81 _ tabOk mixed Tryz.func10 rfl (by kernel_rfl) rfl rfl rfl rfl fun W0 fp0 z0 => ?_
  (repeat' ((conv => whnf); first | refine NBr.yes ?_ | refine NBr.no ?_ | refine NBr.neg (by assumption) ?_ | refine NCall.eq (hA) (by rfl) ?_ | refine NCall.eq (hP) (by first | rfl | (simp only [AV.gives, AV.give, un_bytesD]; first | done | rfl)) ?_ | refine NCall.eq (hR) (by first | rfl | (simp only [AV.gives, AV.give, un_bytesD]; first | done | rfl)) ?_ | refine NCall.eq (hC) (by first | rfl | (simp only [AV.gives, AV.give, un_musU]; first | done | rfl)) ?_ | refine NCall.eq (hW) (by rfl) ?_ | refine NCall.eq (hM') (by first | rfl | (simp only [AV.gives, AV.give, un_musU]; first | done | rfl)) ?_ | refine NCall.eq (hV) (by first | rfl | (simp only [AV.gives, AV.give, un_musU]; first | done | rfl)) ?_ | refine NCall.eq (hB) (by first | rfl | (simp only [AV.gives, AV.give, un_bytesD, uns_bytesL]; first | done | rfl)) ?_)); (all_goals (conv => whnf))
  all_goals (refine NEnd.eq ?_; (repeat' (first | exact leW_refl _ | refine And.intro ?_ ?_ | exact rfl)))
 ·have hno : refOk b ((deepT b).ks.map rdMu) = false := by
   cases hr : refOk b ((deepT b).ks.map rdMu) with
   | false => rfl
   | true =>
     generalize (deepT b).ks.map rdMu = v at hr
     unfold refOk at hr
     simp only [Bool.and_eq_true, beq_iff_eq] at hr
     obtain ⟨⟨r1, r2⟩, r3⟩ := hr
     obtain ⟨n1, n2⟩ := muL_sm r2 (by rw [r3]; omega)
     have k1 : (muL' v).length = 1 + (lenS (v.map muE).flatten.length).length + (v.map muE).flatten.length := putS_len _ _
     have k2 := mu_two v
     rw [r3] at k1
     have := parA_put (v := v) (by rintro rfl; cases r1) r2 n2 (by omega)
     rw [r3, hp] at this
     cases this
  rw [hno, if_neg (by simp)] at hR
  rw [hp] at hP
  have hC := multis_any [] [] ⟨by simp, by simp⟩ ⟨by simp, by simp⟩
  rw [decide_eq_true rfl] at hC
  have hW := wi_any c o b.length (fun h => absurd h hc0) (fun _ => ho)
  have gc : ((c : Int) == 0) = false := by rw [beq_eq_false_iff_ne]; omega
  refine acalls_vc 81 _ tabOk mixed Tryz.func10 rfl (by kernel_rfl) rfl rfl rfl rfl fun W0 fp0 z0 => ?_
  (repeat' ((conv => whnf); first | refine NBr.yes ?_ | refine NBr.no ?_ | refine NBr.neg (by assumption) ?_ | refine NCall.eq (hA) (by rfl) ?_ | refine NCall.eq (hP) (by first | rfl | (simp only [AV.gives, AV.give, un_bytesD]; first | done | rfl)) ?_ | refine NCall.eq (hR) (by first | rfl | (simp only [AV.gives, AV.give, un_bytesD]; first | done | rfl)) ?_ | (refine NCall.le (hC) ?_ ?_; focus ((repeat' (first | exact trivial | refine And.intro ?_ ?_ | exact rfl)); done)) | refine NCall.eq (hW) (by rfl) ?_ | (refine NBr.mk (fun hc => ?_) (fun hc => ?_) <;> (have hcP := hc; (try simp only [beq_iff_eq, beq_eq_false_iff_ne, ne_eq, Bool.not_eq_true', Bool.not_eq_false'] at hcP) <;> first | (exfalso; omega) | skip)))); (all_goals (conv => whnf))
  all_goals (refine NEnd.eq ?_; (repeat' (first | exact leW_refl _ | refine And.intro ?_ ?_ | exact rfl)))
end Go.Proofs.YtblabcopgeobgaaGreatDoor
