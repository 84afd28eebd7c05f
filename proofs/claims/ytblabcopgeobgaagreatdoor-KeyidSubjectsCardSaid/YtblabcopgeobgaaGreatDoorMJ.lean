/- MJ: the texts Kid Kid2 Law15, one behind the other. No condition but what each lemma says. -/
import Derived.Test.YtblabcopgeobgaaGreatDoorMG
import Derived.Test.YtblabcopgeobgaaGreatDoorME
import Derived.Test.YtblabcopgeobgaaGreatDoorMI
/- keyid: subject key identifiers; authority key identifiers, with what general gives told. No condition but sizes that memory bears. -/
namespace Go.Proofs.YtblabcopgeobgaaGreatDoor
open Go.RowKit
set_option maxRecDepth 100000
set_option maxHeartbeats 8000000

theorem encS_len (c n : Nat) (k : Bool) (l : List UInt8) (hl : l.length ≤ 1000000000) : (encS c n k l).length ≤ l.length + 6 := by
  have := lenS_len l.length (by omega)
  simp only [encS, putS, List.length_cons, List.length_append]; omega
theorem mSubject_any (l : List UInt8) (hl : l.length ≤ 100000000) : ACalls Tryz.prog 12 [.d (bytesD false l)] (fun r => r = .tup [ownB 0 5 (encS 0 4 false l), iv 0]) := by
  have hW := wrap_any 0 4 false [l] (by omega) (by omega) (by simp; omega) (by simp)
  rw [show [l].flatten = l by simp] at hW
  refine acalls_vc 9 _ tabOk mixed Tryz.func12 rfl (by kernel_rfl) rfl rfl rfl rfl fun W0 fp0 z0 => ?_
  (repeat' ((conv => whnf); refine NCall.eq (hW) (by first | rfl | (simp only [AV.gives, AV.give, D.un, D.uns, un_bytesD]; first | done | rfl)) ?_)); (all_goals (conv => whnf))
  all_goals (refine NEnd.eq ?_; (repeat' (first | exact trivial | exact leW_refl _ | refine And.intro ?_ ?_ | exact rfl)))
  all_goals rfl
/-- The contents octets of a subject key identifier, or an error's code and place. -/
def psS (b : List UInt8) : List UInt8 × Nat × Nat := if (oneS b).code ≠ 0 then ([], (oneS b).code, (oneS b).off) else if (oneS b).x.isB 0 4 false = false then ([], 3, 0) else ((b.drop (oneS b).x.body).take ((oneS b).x.stop - (oneS b).x.body), 0, 0)
theorem pSubject_any (b : List UInt8) (hl : b.length ≤ 100000000) : ACalls Tryz.prog 13 [.d (bytesD false b)] (fun r => r = .tup [.d (bytesD true (psS b).1), erA (psS b).2.1 (psS b).2.2]) := by
  have hO := one_any b (by omega)
  have hF := oneS_facts b
  unfold psS
  by_cases h1 : (oneS b).code = 0
  · obtain ⟨f1, f2, f3, f4, f5⟩ := hF.1 h1
    have hI := is_any (oneS b).x 0 4 false
    have hC := clone_any ((b.drop (oneS b).x.body).take ((oneS b).x.stop - (oneS b).x.body)) (by rw [List.length_take, List.length_drop]; omega)
    rw [if_neg (by omega)]
    generalize oneS b = r at *
    cases h2 : r.x.isB 0 4 false
    · rw [h2] at hI
      rw [if_pos rfl]
      refine acalls_vc 27 _ tabOk mixed Tryz.func13 rfl (by kernel_rfl) rfl rfl rfl rfl fun W0 fp0 z0 => ?_
      (repeat' ((conv => whnf); first | refine NBr.yes ?_ | refine NCall.eq (hO) (by first | rfl | (simp only [AV.gives, AV.give, un_bytesD]; first | done | rfl)) ?_ | refine NCall.eq (hI) (by rfl) ?_ | (refine NBr.bne (fun hc hcP => ?_) (fun hc hcP => ?_) <;> try (exfalso; omega)))); (all_goals (conv => whnf))
      all_goals (refine NEnd.eq ?_; (repeat' (first | exact trivial | exact leW_refl _ | refine And.intro ?_ ?_ | exact rfl)))
    · rw [h2] at hI
      rw [if_neg (by simp)]
      refine acalls_vc 27 _ tabOk mixed Tryz.func13 rfl (by kernel_rfl) rfl rfl rfl rfl fun W0 fp0 z0 => ?_
      (repeat' ((conv => whnf); first | refine NBr.no ?_ | refine NCall.eq (hO) (by first | rfl | (simp only [AV.gives, AV.give, un_bytesD]; first | done | rfl)) ?_ | refine NCall.eq (hI) (by rfl) ?_ | refine NSl.slice (r.x.body) (r.x.stop) ?_ | refine NCall.eq (hC) (by first | rfl | (simp only [AV.gives, AV.give, D.un, uns_bytesL]; first | done | rfl)) ?_ | (refine NBr.bne (fun hc hcP => ?_) (fun hc hcP => ?_) <;> try (exfalso; omega)))); (all_goals (conv => whnf))
      all_goals (refine NEnd.eq ?_; (repeat' (first | exact leW_refl _ | refine And.intro ?_ ?_ | exact rfl)))
  · rw [if_pos h1]
    generalize oneS b = r at *
    refine acalls_vc 27 _ tabOk mixed Tryz.func13 rfl (by kernel_rfl) rfl rfl rfl rfl fun W0 fp0 z0 => ?_
    (repeat' ((conv => whnf); first | refine NCall.eq (hO) (by first | rfl | (simp only [AV.gives, AV.give, un_bytesD]; first | done | rfl)) ?_ | refine NFact.go ⟨by decide +kernel, by kernel_rfl⟩ ?_ | (refine NBr.bne (fun hc hcP => ?_) (fun hc hcP => ?_) <;> try (exfalso; omega)))); (all_goals (conv => whnf))
    all_goals (refine NEnd.eq ?_; (repeat' (first | exact trivial | exact leW_refl _ | refine And.intro ?_ ?_ | exact rfl)))
theorem rmSubject_any (l : List UInt8) (hl : l.length ≤ 100000000) : ACalls Tryz.prog 16 [.d (bytesD false l)] (fun r => r = ownB 0 5 (encS 0 4 false l)) := by
  have hP : ACalls Tryz.prog 43 [cv 4, .d (bytesD false l)] (fun r => r = ownB 0 5 (encS 0 4 false l)) := rPut_any 4 l (by omega)
  refine acalls_vc 5 _ tabOk mixed Tryz.func16 rfl (by kernel_rfl) rfl rfl rfl rfl fun W0 fp0 z0 => ?_
  (repeat' ((conv => whnf); refine NCall.eq (hP) (by first | rfl | (simp only [AV.gives, AV.give, D.un, un_bytesD]; first | done | rfl)) ?_)); (all_goals (conv => whnf))
  all_goals (refine NEnd.eq ?_; (repeat' (first | refine And.intro ?_ ?_ | exact rfl)))
  all_goals rfl
def rpsF (b v : List UInt8) : List UInt8 × Bool := if encS 0 4 false v = b then (v, true) else ([], false)
theorem rpsF_yes {b v : List UInt8} (h : encS 0 4 false v = b) : rpsF b v = (v, true) := if_pos h
theorem rpsF_no {b v : List UInt8} (h : ¬ encS 0 4 false v = b) : rpsF b v = ([], false) := if_neg h
def rpsS (b : List UInt8) : List UInt8 × Bool := rpsF b (deepT b).v
theorem rpSubject_any (b : List UInt8) (hl : b.length ≤ 100000000) (hv : (deepT b).v.length ≤ 100000000) : ACalls Tryz.prog 14 [.d (bytesD false b)] (fun r => r = .tup [.d (bytesD true (rpsS b).1), bv (rpsS b).2]) := by
  have hD := deep_any b (by omega)
  have hM := rmSubject_any (deepT b).v hv
  have he := encS_len 0 4 false (deepT b).v (by omega)
  have hB := bytesEq_any false false (encS 0 4 false (deepT b).v) b (by omega) (by omega)
  unfold rpsS
  generalize deepT b = t at *
  obtain ⟨c, n, k, v, ks⟩ := t
  rw [trN_eq rfl] at hD
  simp only [Tr.v] at hM hB ⊢
  by_cases h : encS 0 4 false v = b
  · rw [show (encS 0 4 false v == b) = true by rw [h]; simp] at hB
    rw [rpsF_yes h]
    refine acalls_vc 19 _ tabOk mixed Tryz.func14 rfl (by kernel_rfl) rfl rfl rfl rfl fun W0 fp0 z0 => ?_
    (repeat' ((conv => whnf); first | refine NBr.no ?_ | refine NCall.eq (hD) (by first | rfl | (simp only [AV.gives, AV.give, un_bytesD]; first | done | rfl)) ?_ | refine NCall.eq (hM) (by first | rfl | (simp only [AV.gives, AV.give, un_bytesD]; first | done | rfl)) ?_ | refine NCall.eq (hB) (by first | rfl | (simp only [AV.gives, AV.give, un_bytesD, uns_bytesL]; first | done | rfl)) ?_)); (all_goals (conv => whnf))
    all_goals (refine NEnd.eq ?_; (repeat' (first | exact leW_refl _ | refine And.intro ?_ ?_ | exact rfl)))
  · rw [show (encS 0 4 false v == b) = false from beq_false_of_ne h] at hB
    rw [rpsF_no h]
    refine acalls_vc 19 _ tabOk mixed Tryz.func14 rfl (by kernel_rfl) rfl rfl rfl rfl fun W0 fp0 z0 => ?_
    (repeat' ((conv => whnf); first | refine NBr.yes ?_ | refine NCall.eq (hD) (by first | rfl | (simp only [AV.gives, AV.give, un_bytesD]; first | done | rfl)) ?_ | refine NCall.eq (hM) (by first | rfl | (simp only [AV.gives, AV.give, un_bytesD]; first | done | rfl)) ?_ | refine NCall.eq (hB) (by first | rfl | (simp only [AV.gives, AV.give, un_bytesD, uns_bytesL]; first | done | rfl)) ?_)); (all_goals (conv => whnf))
    all_goals (refine NEnd.eq ?_; (repeat' (first | exact trivial | exact leW_refl _ | refine And.intro ?_ ?_ | exact rfl)))
/-- An authority key identifier. -/
structure Kd where
  has : Bool
  id : List UInt8
  iss : List Gn
  ser : List UInt8
abbrev kdA (k : Kd) : AV := .agg [bv k.has, .d (bytesD false k.id), .d (gnsD k.iss), .d (bytesD false k.ser)]
/-- Contents octets of an INTEGER. -/
def intV : List UInt8 → Bool
  | [] => false
  | [_] => true
  | x :: y :: _ => !(x == 0 && decide (y.toNat < 128)) && !(x == 255 && decide (128 ≤ y.toNat))
theorem u8eq (x : UInt8) (n : Nat) (hn : n < 256) : ((x.toNat : Int) == (n : Int)) = (x == UInt8.ofNat n) := by
  rw [Bool.eq_iff_iff, beq_iff_eq, beq_iff_eq, ← UInt8.toNat_inj, UInt8.toNat_ofNat', Nat.mod_eq_of_lt (by omega)]; omega
theorem intValid_any (l : List UInt8) (hl : l.length ≤ 100000000) : ACalls Tryz.prog 88 [.d (bytesD false l)] (fun r => r = bv (intV l)) := by
  match l, hl with
  | [], _ =>
    refine acalls_vc 34 _ tabOk mixed Tryz.func88 rfl (by kernel_rfl) rfl rfl rfl rfl fun W0 fp0 z0 => ?_
    (repeat' ((conv => whnf); refine NBr.yes ?_)); (all_goals (conv => whnf))
    all_goals (refine NEnd.eq ?_; (repeat' (first | exact leW_refl _ | refine And.intro ?_ ?_ | exact rfl)))
  | [x], _ =>
    refine acalls_vc 34 _ tabOk mixed Tryz.func88 rfl (by kernel_rfl) rfl rfl rfl rfl fun W0 fp0 z0 => ?_
    (repeat' ((conv => whnf); refine NBr.yes ?_)); (all_goals (conv => whnf))
    all_goals (refine NEnd.eq ?_; (repeat' (first | exact leW_refl _ | refine And.intro ?_ ?_ | exact rfl)))
  | x :: y :: r, hl =>
    have h0 : (x :: y :: r)[0]? = some x := rfl
    have h1 : (x :: y :: r)[1]? = some y := rfl
    have e1 := and128 y
    have q0 : ((x.toNat : Int) == 0) = (x == 0) := u8eq x 0 (by omega)
    have q1 : ((x.toNat : Int) == 255) = (x == 255) := u8eq x 255 (by omega)
    have hyl := y.toNat_lt
    have q2 : (((y.toNat / 128 * 128 : Nat) : Int) == 0) = decide (y.toNat < 128) := by
      rw [Bool.eq_iff_iff, beq_iff_eq, decide_eq_true_eq]; omega
    have q3 : (((y.toNat / 128 * 128 : Nat) : Int) != 0) = decide (128 ≤ y.toNat) := by
      rw [Bool.eq_iff_iff, bne_iff_ne, decide_eq_true_eq]; omega
    simp only [List.length_cons] at hl
    have c3 : (((y.toNat / 128 * 128 : Nat) : Int) != 0) = !(((y.toNat / 128 * 128 : Nat) : Int) == 0) := rfl
    have d2 : decide (128 ≤ y.toNat) = !decide (y.toNat < 128) := by rw [Bool.eq_iff_iff, Bool.not_eq_true', decide_eq_true_eq, decide_eq_false_iff_not]; omega
    rw [intV, d2, ← q0, ← q1, ← q2]
    cases c2 : (((y.toNat / 128 * 128 : Nat) : Int) == 0)
    all_goals
      rw [c2] at c3
      by_cases x0 : x.toNat = 0
      · have c0 : ((x.toNat : Int) == 0) = true := by rw [beq_iff_eq]; omega
        have c1 : ((x.toNat : Int) == 255) = false := by rw [beq_eq_false_iff_ne]; omega
        rw [c0, c1]
        simp only [Bool.not_true, Bool.not_false] at c3 ⊢
        refine acalls_vc 34 _ tabOk mixed Tryz.func88 rfl (by kernel_rfl) rfl rfl rfl rfl fun W0 fp0 z0 => ?_
        (repeat' ((conv => whnf); first | refine NBr.yes ?_ | refine NBr.no ?_ | refine NBr.pos (by assumption) ?_ | refine NBr.neg (by assumption) ?_ | refine NIdx.bytes h0 ?_ | refine NIdx.bytes h1 ?_ | refine NInt.as (((y.toNat / 128 * 128 : Nat) : Int) ) ( e1) ?_)); (all_goals (conv => whnf))
        all_goals (refine NEnd.eq ?_; (repeat' (first | exact leW_refl _ | refine And.intro ?_ ?_ | exact rfl)))
      · have c0 : ((x.toNat : Int) == 0) = false := by rw [beq_eq_false_iff_ne]; omega
        rw [c0]
        cases c1 : ((x.toNat : Int) == 255)
        all_goals
          simp only [Bool.not_true, Bool.not_false] at c3 ⊢
          refine acalls_vc 34 _ tabOk mixed Tryz.func88 rfl (by kernel_rfl) rfl rfl rfl rfl fun W0 fp0 z0 => ?_
          (repeat' ((conv => whnf); first | refine NBr.yes ?_ | refine NBr.no ?_ | refine NBr.pos (by assumption) ?_ | refine NBr.neg (by assumption) ?_ | refine NIdx.bytes h0 ?_ | refine NIdx.bytes h1 ?_ | refine NInt.as (((y.toNat / 128 * 128 : Nat) : Int) ) ( e1) ?_)); (all_goals (conv => whnf))
          all_goals (refine NEnd.eq ?_; (repeat' (first | exact leW_refl _ | refine And.intro ?_ ?_ | exact rfl)); (all_goals (conv => whnf)))
          all_goals (rw [c3]; rfl)
/-- Is it valid, if general says so of its issuer? -/
def kdV (k : Kd) (gv : Bool) : Bool := if k.has = false ∧ k.id ≠ [] then false else if (k.iss = []) ≠ (k.ser = []) then false else k.iss = [] || gv && intV k.ser
theorem kdValid_any (k : Kd) (gv : Bool) (hk : k.id.length ≤ 100000000 ∧ k.iss.length ≤ 100000000 ∧ k.ser.length ≤ 100000000) (hG : k.iss ≠ [] → ACalls Tryz.prog 87 [.d (gnsD k.iss)] (fun r => r = bv gv)) : ACalls Tryz.prog 60 [kdA k] (fun r => r = bv (kdV k gv)) := by
  obtain ⟨has, id, iss, ser⟩ := k
  obtain ⟨l1, l2, l3⟩ := hk
  simp only at l1 l2 l3 hG
  have hI := intValid_any ser l3
  have n0 : ∀ {α : Type} (l : List α), l = [] → ((l.length : Int) == 0) = true := fun l h => by subst h; rfl
  have n1 : ∀ {α : Type} (l : List α), l ≠ [] → ((l.length : Int) == 0) = false := fun l h => by
    cases l with
    | nil => exact absurd rfl h
    | cons x r => rw [beq_eq_false_iff_ne, List.length_cons]; omega
  by_cases i0 : iss = []
  · have g1 := n0 iss i0
    by_cases s0 : ser = []
    · have g2 := n0 ser s0
      have gq : (!(((iss.length : Int) == 0) == ((ser.length : Int) == 0))) = false := by rw [g1, g2]; rfl
      by_cases d0 : id = []
      · have g3 : decide ((id.length : Int) > 0) = false := by subst d0; rfl
        have e : kdV ⟨has, id, iss, ser⟩ gv = true := by unfold kdV; simp [i0, s0, d0]
        rw [e]
        cases has
        all_goals
          refine acalls_vc 37 _ tabOk mixed Tryz.func60 rfl (by kernel_rfl) rfl rfl rfl rfl fun W0 fp0 z0 => ?_
          (repeat' ((conv => whnf); first | refine NBr.yes ?_ | refine NBr.no ?_ | refine NBr.pos (by assumption) ?_ | refine NBr.neg (by assumption) ?_)); (all_goals (conv => whnf))
          all_goals (refine NEnd.eq ?_; (repeat' (first | exact leW_refl _ | refine And.intro ?_ ?_ | exact rfl)))
      · have g3 : decide ((id.length : Int) > 0) = true := decide_eq_true (by cases id with | nil => exact absurd rfl d0 | cons x r => simp only [List.length_cons]; omega)
        have e : kdV ⟨has, id, iss, ser⟩ gv = has := by unfold kdV; cases has <;> simp [i0, s0, d0]
        rw [e]
        cases has
        all_goals
          refine acalls_vc 37 _ tabOk mixed Tryz.func60 rfl (by kernel_rfl) rfl rfl rfl rfl fun W0 fp0 z0 => ?_
          (repeat' ((conv => whnf); first | refine NBr.yes ?_ | refine NBr.no ?_ | refine NBr.pos (by assumption) ?_ | refine NBr.neg (by assumption) ?_)); (all_goals (conv => whnf))
          all_goals (refine NEnd.eq ?_; (repeat' (first | exact leW_refl _ | refine And.intro ?_ ?_ | exact rfl)))
    · have g2 := n1 ser s0
      have gq : (!(((iss.length : Int) == 0) == ((ser.length : Int) == 0))) = true := by rw [g1, g2]; rfl
      have e : kdV ⟨has, id, iss, ser⟩ gv = false := by unfold kdV; simp [i0, s0]
      rw [e]
      by_cases d0 : id = []
      · have g3 : decide ((id.length : Int) > 0) = false := by subst d0; rfl
        cases has
        all_goals
          refine acalls_vc 37 _ tabOk mixed Tryz.func60 rfl (by kernel_rfl) rfl rfl rfl rfl fun W0 fp0 z0 => ?_
          (repeat' ((conv => whnf); first | refine NBr.yes ?_ | refine NBr.no ?_ | refine NBr.pos (by assumption) ?_ | refine NBr.neg (by assumption) ?_)); (all_goals (conv => whnf))
          all_goals (refine NEnd.eq ?_; (repeat' (first | exact leW_refl _ | refine And.intro ?_ ?_ | exact rfl)))
      · have g3 : decide ((id.length : Int) > 0) = true := decide_eq_true (by cases id with | nil => exact absurd rfl d0 | cons x r => simp only [List.length_cons]; omega)
        cases has
        all_goals
          refine acalls_vc 37 _ tabOk mixed Tryz.func60 rfl (by kernel_rfl) rfl rfl rfl rfl fun W0 fp0 z0 => ?_
          (repeat' ((conv => whnf); first | refine NBr.yes ?_ | refine NBr.no ?_ | refine NBr.pos (by assumption) ?_)); (all_goals (conv => whnf))
          all_goals (refine NEnd.eq ?_; (repeat' (first | exact leW_refl _ | refine And.intro ?_ ?_ | exact rfl)))
  · have g1 := n1 iss i0
    have hG' := hG i0
    by_cases s0 : ser = []
    · have g2 := n0 ser s0
      have gq : (!(((iss.length : Int) == 0) == ((ser.length : Int) == 0))) = true := by rw [g1, g2]; rfl
      have e : kdV ⟨has, id, iss, ser⟩ gv = false := by unfold kdV; simp [i0, s0]
      rw [e]
      by_cases d0 : id = []
      · have g3 : decide ((id.length : Int) > 0) = false := by subst d0; rfl
        cases has
        all_goals
          refine acalls_vc 37 _ tabOk mixed Tryz.func60 rfl (by kernel_rfl) rfl rfl rfl rfl fun W0 fp0 z0 => ?_
          (repeat' ((conv => whnf); first | refine NBr.yes ?_ | refine NBr.no ?_ | refine NBr.pos (by assumption) ?_ | refine NBr.neg (by assumption) ?_)); (all_goals (conv => whnf))
          all_goals (refine NEnd.eq ?_; (repeat' (first | exact leW_refl _ | refine And.intro ?_ ?_ | exact rfl)))
      · have g3 : decide ((id.length : Int) > 0) = true := decide_eq_true (by cases id with | nil => exact absurd rfl d0 | cons x r => simp only [List.length_cons]; omega)
        cases has
        all_goals
          refine acalls_vc 37 _ tabOk mixed Tryz.func60 rfl (by kernel_rfl) rfl rfl rfl rfl fun W0 fp0 z0 => ?_
          (repeat' ((conv => whnf); first | refine NBr.yes ?_ | refine NBr.no ?_ | refine NBr.pos (by assumption) ?_)); (all_goals (conv => whnf))
          all_goals (refine NEnd.eq ?_; (repeat' (first | exact leW_refl _ | refine And.intro ?_ ?_ | exact rfl)))
    · have g2 := n1 ser s0
      have gq : (!(((iss.length : Int) == 0) == ((ser.length : Int) == 0))) = false := by rw [g1, g2]; rfl
      by_cases d0 : id = []
      · have g3 : decide ((id.length : Int) > 0) = false := by subst d0; rfl
        have e : kdV ⟨has, id, iss, ser⟩ gv = (gv && intV ser) := by unfold kdV; simp [i0, s0, d0]
        rw [e]
        cases has <;> cases gv
        all_goals
          refine acalls_vc 37 _ tabOk mixed Tryz.func60 rfl (by kernel_rfl) rfl rfl rfl rfl fun W0 fp0 z0 => ?_
          (repeat' ((conv => whnf); first | refine NBr.yes ?_ | refine NBr.no ?_ | refine NBr.neg (by assumption) ?_ | refine NCall.eq (hI) (by first | rfl | (simp only [AV.gives, AV.give, un_bytesD]; first | done | rfl)) ?_ | refine NCall.eq (hG') (by first | rfl | (simp only [AV.gives, AV.give, un_gnsD]; first | done | rfl)) ?_)); (all_goals (conv => whnf))
          all_goals (refine NEnd.eq ?_; (repeat' (first | exact leW_refl _ | refine And.intro ?_ ?_ | exact rfl)))
      · have g3 : decide ((id.length : Int) > 0) = true := decide_eq_true (by cases id with | nil => exact absurd rfl d0 | cons x r => simp only [List.length_cons]; omega)
        have e : kdV ⟨has, id, iss, ser⟩ gv = (has && (gv && intV ser)) := by unfold kdV; cases has <;> simp [i0, s0, d0]
        rw [e]
        cases has <;> cases gv
        all_goals
          refine acalls_vc 37 _ tabOk mixed Tryz.func60 rfl (by kernel_rfl) rfl rfl rfl rfl fun W0 fp0 z0 => ?_
          (repeat' ((conv => whnf); first | refine NBr.yes ?_ | refine NBr.no ?_ | refine NBr.pos (by assumption) ?_ | refine NBr.neg (by assumption) ?_ | refine NCall.eq (hI) (by first | rfl | (simp only [AV.gives, AV.give, un_bytesD]; first | done | rfl)) ?_ | refine NCall.eq (hG') (by first | rfl | (simp only [AV.gives, AV.give, un_gnsD]; first | done | rfl)) ?_)); (all_goals (conv => whnf))
          all_goals (refine NEnd.eq ?_; (repeat' (first | exact leW_refl _ | refine And.intro ?_ ?_ | exact rfl)))
end Go.Proofs.YtblabcopgeobgaaGreatDoor

/- keyid.Marshal, with what general gives told; what chapter 15's laws ask before all else. No condition but sizes that memory bears. -/
namespace Go.Proofs.YtblabcopgeobgaaGreatDoor
open Go.RowKit
set_option maxRecDepth 100000
set_option maxHeartbeats 8000000

def kdP (k : Kd) (body : List UInt8) : List (List UInt8) := (if k.has then [encS 2 0 false k.id] else []) ++ (if k.iss = [] then [] else [encS 2 1 true body, encS 2 2 false k.ser])
theorem step_max {P : Program} {C : Cx} {o : Oper} {σ : AS} {t : Nat} {k : IntKind} {m n : Int} {x y : Operand} {ats : Array TypeId} (v : Int) (hv : (if m < n then n else m) = v) (ho : o.op = .call { callee := .builtin .max, args := #[x, y], argTypes := ats }) (hd : o.dst = some t) (ht : t < C.N) (hx : σ.eval x = some (.d (.v (.int k m)))) (hy : σ.eval y = some (.d (.v (.int k n)))) : AStep P C o σ (σ.put t (.d (.v (.int k v)))) :=
  step_val hd ht fun a w bm gt fp hg => by
    have h1 := (hg.eval hx).val
    have h2 := (hg.eval hy).val
    refine ⟨_, ?_, .d (.v _)⟩
    simp only [execOp, ho, resolve, invoke, builtin, Sem.run_bind, Sem.run_pure, Result.andThen_ok, List.map_toArray, List.map_cons, List.map_nil, h1, h2]
    subst hv
    simp [go_sem]
    try omega
theorem wrap1_any (c n : Nat) (k : Bool) (p : List UInt8) (hc1 : c ≤ 3) (hn : n ≤ 30) (hl : p.length ≤ 900000000) : ACalls Tryz.prog 38 [iv c, bv k, iv n, .d (partsD [p])] (fun r => r = .tup [ownB 0 5 (encS c n k p), iv 0]) := by
  have h := wrap_any c n k [p] hc1 hn (by simpa using hl) (by simp)
  rwa [show [p].flatten = p by simp] at h
theorem kdMar_has (k : Kd) (hh : k.has = true) (hi : k.iss = []) (hl : k.id.length ≤ 100000000) (hV : ACalls Tryz.prog 60 [kdA k] (fun r => r = bv true)) :
    ACalls Tryz.prog 37 [kdA k] (fun r => r = .tup [ownB 0 5 (encS 0 16 true (encS 2 0 false k.id)), iv 0]) := by
  obtain ⟨has, id, iss, ser⟩ := k
  simp only at hh hi hl
  subst hh hi
  have hW := wrap1_any 2 0 false id (by omega) (by omega) (by omega)
  have hl1 := encS_len 2 0 false id (by omega)
  have hS := seq_any [encS 2 0 false id] (by simp; omega) (by simp)
  rw [show [encS 2 0 false id].flatten = encS 2 0 false id by simp] at hS
  refine acalls_vc 58 _ tabOk mixed Tryz.func37 rfl (by kernel_rfl) rfl rfl rfl rfl fun W0 fp0 z0 => ?_
  (repeat' ((conv => whnf); first | refine NBr.yes ?_ | refine NBr.no ?_ | refine NCall.eq (hV) (by first | rfl | (simp only [AV.gives, AV.give, D.un, un_bytesD, un_gnsD]; first | done | rfl)) ?_)); (all_goals (conv => whnf))
  refine NStep.inlC 100 25 #[] tabOk mixed rfl rfl rfl rfl Tryz.func61 rfl (by kernel_rfl) rfl rfl rfl rfl (fun gh => ?_)
  (repeat' ((conv => whnf); first | refine NBr.no ?_ | refine NCall.eq (hW) (by first | rfl | (simp only [AV.gives, AV.give, D.un, D.uns, un_bytesD]; first | done | rfl)) ?_ | refine NStep.go (step_max 0 rfl rfl rfl (ltN rfl) rfl rfl) ?_ | (refine NApp.at 1 _ ?_) | refine NCall.eq (hS) (by first | rfl | (simp only [AV.gives, AV.give, D.un, D.uns, uns_bytesL, List.nil_append]; first | done | rfl)) ?_)); (all_goals (conv => whnf))
  all_goals (refine NEnd.eq ?_; (repeat' (first | exact trivial | exact leW_refl _ | refine And.intro ?_ ?_ | exact rfl)))
  all_goals rfl
theorem step_max3 {P : Program} {C : Cx} {o : Oper} {σ : AS} {t : Nat} {k : IntKind} {x y z : Operand} {ats : Array TypeId} (ho : o.op = .call { callee := .builtin .max, args := #[x, y, z], argTypes := ats }) (hd : o.dst = some t) (ht : t < C.N) (hx : σ.eval x = some (.d (.v (.int k 0)))) (hy : σ.eval y = some (.d (.v (.int k 0)))) (hz : σ.eval z = some (.d (.v (.int k 0)))) : AStep P C o σ (σ.put t (.d (.v (.int k 0)))) :=
  step_val hd ht fun a w bm gt fp hg => by
    have h1 := (hg.eval hx).val
    have h2 := (hg.eval hy).val
    have h3 := (hg.eval hz).val
    refine ⟨_, ?_, .d (.v _)⟩
    simp only [execOp, ho, resolve, invoke, builtin, Sem.run_bind, Sem.run_pure, Result.andThen_ok, List.map_toArray, List.map_cons, List.map_nil, h1, h2, h3]
    simp [go_sem]
theorem one_enc (c n : Nat) (k : Bool) (l : List UInt8) (hc1 : c ≤ 3) (hn : n ≤ 30) (hl : l.length ≤ 900000000) : ∃ h : Nat, ACalls Tryz.prog 39 [.d (bytesD false (encS c n k l))] (fun r => r = .tup [.agg [iv c, iv n, bv k, iv 0, iv h, iv (encS c n k l).length], erA 0 0]) ∧ (encS c n k l).length = h + l.length ∧ ((encS c n k l).drop h).take ((encS c n k l).length - h) = l ∧ (encS c n k l).drop h = l := by
  obtain ⟨t, ht⟩ : ∃ t : Tv, t = ⟨c, n, k, l⟩ := ⟨_, rfl⟩
  have hOk : t.ok := by subst ht; exact ⟨hc1, hn, by show l.length ≤ _; omega⟩
  have he : t.enc = encS c n k l := by subst ht; rfl
  have hB := t.body
  have hL := t.len
  have h5 := lenS_len t.v.length (by have := hOk.v; omega)
  have hv : t.v = l := by subst ht; rfl
  have hO := one_any t.enc (by rw [hL, hv]; unfold Tv.hd; omega)
  rw [oneS_put hOk] at hO
  have hx : erR ⟨t.el 0, 0, 0⟩ = .tup [.agg [iv t.c, iv t.n, bv t.k, iv 0, iv (0 + t.hd : Nat), iv (0 + t.enc.length : Nat)], erA 0 0] := rfl
  rw [hx, Nat.zero_add, Nat.zero_add, show t.c = c by subst ht; rfl, show t.n = n by subst ht; rfl, show t.k = k by subst ht; rfl] at hO
  rw [hv] at hB hL
  rw [he] at hO hB hL
  refine ⟨t.hd, hO, hL, ?_, hB⟩
  rw [hB]
  exact List.take_of_length_le (by rw [hL]; omega)
theorem kdMar_iss (k : Kd) (body : List UInt8) (hi : k.iss ≠ []) (hl : k.id.length ≤ 100000000) (hlb : body.length ≤ 100000000) (hls : k.ser.length ≤ 100000000) (hV : ACalls Tryz.prog 60 [kdA k] (fun r => r = bv true))
    (hM : ACalls Tryz.prog 62 [.d (gnsD k.iss)] (fun r => r = .tup [ownB 0 5 (encS 0 16 true body), iv 0])) :
    ACalls Tryz.prog 37 [kdA k] (fun r => r = .tup [ownB 0 5 (encS 0 16 true (kdP k body).flatten), iv 0]) := by
  obtain ⟨has, id, iss, ser⟩ := k
  simp only at hi hl hls hM
  have gi : decide ((iss.length : Int) > 0) = true := decide_eq_true (by cases iss with | nil => exact absurd rfl hi | cons x r => simp only [List.length_cons]; omega)
  have hW := wrap1_any 2 0 false id (by omega) (by omega) (by omega)
  have hW1 := wrap1_any 2 1 true body (by omega) (by omega) (by omega)
  have hW2 := wrap1_any 2 2 false ser (by omega) (by omega) (by omega)
  have hl0 := encS_len 2 0 false id (by omega)
  have hl1 := encS_len 2 1 true body (by omega)
  have hl2 := encS_len 2 2 false ser (by omega)
  have hl3 := encS_len 0 16 true body (by omega)
  obtain ⟨hdn, hO, hL', hd, -⟩ := one_enc 0 16 true body (by omega) (by omega) (by omega)
  cases has
  · rw [show kdP ⟨false, id, iss, ser⟩ body = [encS 2 1 true body, encS 2 2 false ser] by simp [kdP, hi]]
    have hS := seq_any [encS 2 1 true body, encS 2 2 false ser] (by simp; omega) (by simp)
    refine acalls_vc 58 _ tabOk mixed Tryz.func37 rfl (by kernel_rfl) rfl rfl rfl rfl fun W0 fp0 z0 => ?_
    (repeat' ((conv => whnf); first | refine NBr.no ?_ | refine NBr.pos (by assumption) ?_ | refine NCall.eq (hV) (by first | rfl | (simp only [AV.gives, AV.give, D.un, un_bytesD, un_gnsD]; first | done | rfl)) ?_ | refine NCall.eq (hM) (by first | rfl | (simp only [AV.gives, AV.give, un_gnsD]; first | done | rfl)) ?_ | refine NCall.eq (hO) (by first | rfl | (simp only [AV.gives, AV.give, uns_bytesL]; first | done | rfl)) ?_ | refine NStep.go (step_max3 rfl rfl (ltN rfl) rfl rfl rfl) ?_ | (refine NSl.bytes hdn (encS 0 16 true body).length body hd ?_))); (all_goals (conv => whnf))
    refine NStep.inlC 100 25 #[] tabOk mixed rfl rfl rfl rfl Tryz.func61 rfl (by kernel_rfl) rfl rfl rfl rfl (fun gh => ?_)
    (repeat' ((conv => whnf); first | refine NCall.eq (hW1) (by first | rfl | (simp only [AV.gives, AV.give, D.un, D.uns, uns_bytesL]; first | done | rfl)) ?_ | refine NStep.go (step_max 0 rfl rfl rfl (ltN rfl) rfl rfl) ?_ | (refine NApp.at 1 _ ?_))); (all_goals (conv => whnf))
    refine NStep.inlC 100 25 #[] tabOk mixed rfl rfl rfl rfl Tryz.func61 rfl (by kernel_rfl) rfl rfl rfl rfl (fun gh => ?_)
    (repeat' ((conv => whnf); first | refine NBr.no ?_ | refine NCall.eq (hW2) (by first | rfl | (simp only [AV.gives, AV.give, D.un, D.uns, un_bytesD]; first | done | rfl)) ?_ | refine NStep.go (step_max 0 rfl rfl rfl (ltN rfl) rfl rfl) ?_ | (refine NApp.at 2 _ ?_) | refine NCall.eq (hS) (by first | rfl | (simp only [AV.gives, AV.give, D.un, D.uns, uns_bytesL, List.nil_append, List.cons_append]; first | done | rfl)) ?_)); (all_goals (conv => whnf))
    all_goals (refine NEnd.eq ?_; (repeat' (first | exact trivial | exact leW_refl _ | refine And.intro ?_ ?_ | exact rfl)))
    all_goals rfl
  · rw [show kdP ⟨true, id, iss, ser⟩ body = [encS 2 0 false id, encS 2 1 true body, encS 2 2 false ser] by simp [kdP, hi]]
    have hS := seq_any [encS 2 0 false id, encS 2 1 true body, encS 2 2 false ser] (by simp; omega) (by simp)
    refine acalls_vc 58 _ tabOk mixed Tryz.func37 rfl (by kernel_rfl) rfl rfl rfl rfl fun W0 fp0 z0 => ?_
    (repeat' ((conv => whnf); first | refine NBr.yes ?_ | refine NBr.no ?_ | refine NCall.eq (hV) (by first | rfl | (simp only [AV.gives, AV.give, D.un, un_bytesD, un_gnsD]; first | done | rfl)) ?_)); (all_goals (conv => whnf))
    refine NStep.inlC 100 25 #[] tabOk mixed rfl rfl rfl rfl Tryz.func61 rfl (by kernel_rfl) rfl rfl rfl rfl (fun gh => ?_)
    (repeat' ((conv => whnf); first | refine NBr.pos (by assumption) ?_ | refine NCall.eq (hW) (by first | rfl | (simp only [AV.gives, AV.give, D.un, D.uns, un_bytesD]; first | done | rfl)) ?_ | refine NStep.go (step_max 0 rfl rfl rfl (ltN rfl) rfl rfl) ?_ | (refine NApp.at 1 _ ?_) | refine NCall.eq (hM) (by first | rfl | (simp only [AV.gives, AV.give, un_gnsD]; first | done | rfl)) ?_ | refine NCall.eq (hO) (by first | rfl | (simp only [AV.gives, AV.give, uns_bytesL]; first | done | rfl)) ?_ | refine NStep.go (step_max3 rfl rfl (ltN rfl) rfl rfl rfl) ?_ | (refine NSl.bytes hdn (encS 0 16 true body).length body hd ?_))); (all_goals (conv => whnf))
    refine NStep.inlC 100 25 #[] tabOk mixed rfl rfl rfl rfl Tryz.func61 rfl (by kernel_rfl) rfl rfl rfl rfl (fun gh => ?_)
    (repeat' ((conv => whnf); first | refine NCall.eq (hW1) (by first | rfl | (simp only [AV.gives, AV.give, D.un, D.uns, uns_bytesL]; first | done | rfl)) ?_ | refine NStep.go (step_max 0 rfl rfl rfl (ltN rfl) rfl rfl) ?_ | (refine NApp.at 2 _ ?_))); (all_goals (conv => whnf))
    refine NStep.inlC 100 25 #[] tabOk mixed rfl rfl rfl rfl Tryz.func61 rfl (by kernel_rfl) rfl rfl rfl rfl (fun gh => ?_)
    (repeat' ((conv => whnf); first | refine NBr.no ?_ | refine NCall.eq (hW2) (by first | rfl | (simp only [AV.gives, AV.give, D.un, D.uns, un_bytesD]; first | done | rfl)) ?_ | refine NStep.go (step_max 0 rfl rfl rfl (ltN rfl) rfl rfl) ?_ | (refine NApp.at 3 _ ?_) | refine NCall.eq (hS) (by first | rfl | (simp only [AV.gives, AV.give, D.un, D.uns, uns_bytesL, List.nil_append, List.cons_append]; first | done | rfl)) ?_)); (all_goals (conv => whnf))
    all_goals (refine NEnd.eq ?_; (repeat' (first | exact trivial | exact leW_refl _ | refine And.intro ?_ ?_ | exact rfl)))
    all_goals rfl
theorem awake15 : ACalls Tryz.prog 11 [] (fun r => r = bv true) := by
  have v1 := kdValid_any ⟨true, [1, 2], [], []⟩ true (by decide) (fun h => absurd rfl h)
  rw [show kdV ⟨true, [1, 2], [], []⟩ true = true by decide] at v1
  have m1 := kdMar_has ⟨true, [1, 2], [], []⟩ rfl rfl (by decide) v1
  have l1 : ACalls Tryz.prog 87 [.d (gnsD [gnV 2 [97]])] (fun r => r = bv true) := validList_txt txOk_a
  have v2 := kdValid_any ⟨false, [], [gnV 2 [97]], [5]⟩ true ⟨by decide, by decide, by decide⟩ (fun _ => l1)
  rw [show kdV ⟨false, [], [gnV 2 [97]], [5]⟩ true = true by decide] at v2
  have m2 := kdMar_iss ⟨false, [], [gnV 2 [97]], [5]⟩ [130, 1, 97] (by simp) (by decide) (by decide) (by decide) v2 (marshalList_txt txOk_a)
  have s1 := mSubject_any [1, 2] (by decide)
  have e1 : encS 0 16 true (encS 2 0 false [1, 2]) = [48, 4, 128, 2, 1, 2] := by
    rw [encS_small 2 0 false _ (by decide), encS_small 0 16 true _ (by decide)]; decide
  have e2 : encS 0 16 true (kdP ⟨false, [], [gnV 2 [97]], [5]⟩ [130, 1, 97]).flatten = [48, 8, 161, 3, 130, 1, 97, 130, 1, 5] := by
    rw [show (kdP ⟨false, [], [gnV 2 [97]], [5]⟩ [130, 1, 97]).flatten = encS 2 1 true [130, 1, 97] ++ encS 2 2 false [5] by simp [kdP], encS_small 2 1 true _ (by decide), encS_small 2 2 false _ (by decide), encS_small 0 16 true _ (by decide)]; decide
  have e3 : encS 0 4 false [1, 2] = [4, 2, 1, 2] := by rw [encS_small 0 4 false _ (by decide)]; decide
  rw [e1] at m1
  rw [e2] at m2
  rw [e3] at s1
  have b1 := bytesEq_any false false [48, 4, 128, 2, 1, 2] [48, 4, 128, 2, 1, 2] (by decide) (by decide)
  have b2 := bytesEq_any false false [48, 8, 161, 3, 130, 1, 97, 130, 1, 5] [48, 8, 161, 3, 130, 1, 97, 130, 1, 5] (by decide) (by decide)
  have b3 := bytesEq_any false false [4, 2, 1, 2] [4, 2, 1, 2] (by decide) (by decide)
  rw [beq_self_eq_true] at b1 b2 b3
  refine acalls_vc 51 _ tabOk mixed Tryz.func11 rfl (by kernel_rfl) rfl rfl rfl rfl fun W0 fp0 z0 => ?_
  (repeat' ((conv => whnf); first | refine NBr.yes ?_ | (refine NCall.le (m1) ?_ ?_; focus ((repeat' (first | exact trivial | exact leW_refl _ | refine And.intro ?_ ?_ | exact rfl | exact Or.inr rfl | refine Or.inr ?_)); done)) | (refine NCall.le (m2) ?_ ?_; focus ((repeat' (first | exact trivial | exact leW_refl _ | refine And.intro ?_ ?_ | exact rfl | exact Or.inr rfl | refine Or.inr ?_)); done)) | (refine NCall.le (s1) ?_ ?_; focus ((repeat' (first | exact trivial | exact leW_refl _ | refine And.intro ?_ ?_)); done)) | (refine NCall.le (b1) ?_ ?_; focus ((repeat' (first | exact trivial | exact leW_refl _ | refine And.intro ?_ ?_ | exact rfl | exact Or.inr rfl | refine Or.inr ?_)); done)) | (refine NCall.le (b2) ?_ ?_; focus ((repeat' (first | exact trivial | exact leW_refl _ | refine And.intro ?_ ?_ | exact rfl | exact Or.inr rfl | refine Or.inr ?_)); done)) | (refine NCall.le (b3) ?_ ?_; focus ((repeat' (first | exact trivial | exact leW_refl _ | refine And.intro ?_ ?_)); done)))); (all_goals (conv => whnf))
  all_goals (refine NEnd.eq ?_; (repeat' (first | exact leW_refl _ | refine And.intro ?_ ?_ | exact rfl)))
end Go.Proofs.YtblabcopgeobgaaGreatDoor

/- The law KeyidSubjects: in plain Lean, and walked. No condition but sizes that memory bears. -/
namespace Go.Proofs.YtblabcopgeobgaaGreatDoor
open Go.RowKit
set_option maxRecDepth 100000
set_option maxHeartbeats 8000000

theorem encS_tv (c n : Nat) (k : Bool) (l : List UInt8) : encS c n k l = (Tv.mk c n k l).enc := rfl
theorem psS_put (l : List UInt8) (hl : l.length ≤ 2147483647) : psS (encS 0 4 false l) = (l, 0, 0) := by
  obtain ⟨t, ht⟩ : ∃ t : Tv, t = ⟨0, 4, false, l⟩ := ⟨_, rfl⟩
  have hOk : t.ok := by subst ht; exact ⟨by show (0 : Nat) ≤ 3; omega, by show (4 : Nat) ≤ 30; omega, hl⟩
  have he : encS 0 4 false l = t.enc := by subst ht; rfl
  have hv : t.v = l := by subst ht; rfl
  have hi : (t.el 0).isB 0 4 false = true := by subst ht; rfl
  rw [he]
  unfold psS
  rw [oneS_put hOk, if_neg (by simp)]
  simp only [hi]
  rw [if_neg (by simp)]
  show ((t.enc.drop (0 + t.hd)).take (0 + t.enc.length - (0 + t.hd)), 0, 0) = _
  rw [Nat.zero_add, Nat.zero_add, t.body, List.take_of_length_le (by rw [t.len]; omega), hv]
theorem psS_inv {b : List UInt8} (h : (psS b).2.1 = 0) : b = encS 0 4 false (psS b).1 ∧ (psS b).1.length ≤ 2147483647 ∧ (psS b).2.2 = 0 := by
  unfold psS at h ⊢
  by_cases h1 : (oneS b).code ≠ 0
  · rw [if_pos h1] at h; exact absurd h h1
  rw [if_neg h1] at h ⊢
  by_cases h2 : (oneS b).x.isB 0 4 false = false
  · rw [if_pos h2] at h; cases h
  rw [if_neg h2]
  obtain ⟨t, t1, t2, t3⟩ := oneS_inv (Decidable.not_not.1 h1)
  rw [t2] at h2 ⊢
  have hb : (t.el 0).isB 0 4 false = true := by simpa using h2
  unfold El.isB Tv.el at hb
  simp only [Bool.and_eq_true, beq_iff_eq] at hb
  obtain ⟨⟨b1, b2⟩, b3⟩ := hb
  have hv : (b.drop (0 + t.hd)).take (0 + t.enc.length - (0 + t.hd)) = t.v := by
    rw [t3, Nat.zero_add, Nat.zero_add, t.body]
    exact List.take_of_length_le (by rw [t.len]; omega)
  show b = encS 0 4 false ((b.drop (0 + t.hd)).take (0 + t.enc.length - (0 + t.hd))) ∧ ((b.drop (0 + t.hd)).take (0 + t.enc.length - (0 + t.hd))).length ≤ _ ∧ _
  rw [hv]
  refine ⟨?_, t1.v, rfl⟩
  rw [t3, Tv.enc, b1, b2, b3]
theorem psS_bad {b : List UInt8} (h : (psS b).2.1 ≠ 0) : (psS b).1 = [] ∧ (psS b).2.2 ≤ b.length := by
  have hF := oneS_facts b
  unfold psS at h ⊢
  by_cases h1 : (oneS b).code ≠ 0
  · rw [if_pos h1]; exact ⟨rfl, hF.2.2.1⟩
  rw [if_neg h1] at h ⊢
  by_cases h2 : (oneS b).x.isB 0 4 false = false
  · rw [if_pos h2]; exact ⟨rfl, Nat.zero_le _⟩
  · rw [if_neg h2] at h; exact absurd rfl h
/-- A primitive element as a tree. -/
theorem deep_prim {t : Tv} (h : t.ok) (hk : t.k = false) : deepT t.enc = .mk t.c t.n false t.v [] := by
  have hr := Tv.rh h []
  rw [List.append_nil] at hr
  have hl := t.len
  have e : rT 60 t.enc = ⟨[.mk t.c t.n false t.v []], t.enc.length, 0, 0⟩ := by
    show rTH (rT 59) t.enc (rhS t.enc) = _
    rw [hr]
    unfold rTH
    rw [if_neg (by simp)]
    simp only
    rw [if_neg (by omega), if_pos hk, t.body, List.take_of_length_le (Nat.le_refl _), hl]
  unfold deepT withinT
  rw [e, wholeT_ok (by omega)]; rfl
theorem rT_v : ∀ (d : Nat) (l : List UInt8) (t : Tr), t ∈ (rT d l).l → t.v.length ≤ l.length
  | 0, l, t, h => by simp [rT, TR.bad] at h
  | d + 1, l, t, h => by
    rw [rT] at h
    unfold rTH at h
    split at h
    · simp [TR.bad] at h
    · split at h
      · simp [TR.bad] at h
      · split at h
        · simp only [List.mem_singleton] at h
          subst h
          show ((l.drop _).take _).length ≤ _
          rw [List.length_take, List.length_drop]; omega
        · split at h
          · simp [TR.bad] at h
          · simp only [List.mem_singleton] at h
            subst h
            exact Nat.zero_le _
theorem deep_v (b : List UInt8) : (deepT b).v.length ≤ b.length := by
  unfold deepT
  have hF := withinT_facts 60 b
  by_cases h : (withinT 60 b).code = 0
  · obtain ⟨t, h1, h2⟩ := hF.1 h
    rw [h1]
    exact rT_v 60 b t (by rw [h2]; simp)
  · have := (hF.2 h).1
    unfold TR.tree
    rw [this]; exact Nat.zero_le _
theorem rpsS_eq (b : List UInt8) (hb : b.length ≤ 100000000) : rpsS b = ((psS b).1, (psS b).2.1 == 0) := by
  unfold rpsS
  have hv := deep_v b
  by_cases h : (psS b).2.1 = 0
  · obtain ⟨h1, h2, h3⟩ := psS_inv h
    have hOk : Tv.ok ⟨0, 4, false, (psS b).1⟩ := ⟨by show (0 : Nat) ≤ 3; omega, by show (4 : Nat) ≤ 30; omega, h2⟩
    have hd : (deepT b).v = (psS b).1 := by
      have := deep_prim hOk rfl
      rw [← encS_tv, ← h1] at this
      rw [this]; rfl
    rw [hd, rpsF_yes h1.symm, h]; rfl
  · have hne : ¬ encS 0 4 false (deepT b).v = b := fun e => by
      have := psS_put (deepT b).v (by omega)
      rw [e] at this
      rw [this] at h; exact h rfl
    rw [rpsF_no hne, (psS_bad h).1]
    cases hc : (psS b).2.1 with
    | zero => exact absurd hc h
    | succ n => rfl
theorem wi_any (c o n : Nat) (h1 : c = 0 → o = 0) (h2 : c ≠ 0 → o ≤ n) : ACalls Tryz.prog 17 [erA c o, iv n] (fun r => r = bv true) := by
  by_cases hz : c = 0
  · have ho := h1 hz
    subst hz ho
    refine acalls_vc 25 _ tabOk mixed Tryz.func17 rfl (by kernel_rfl) rfl rfl rfl rfl fun W0 fp0 z0 => ?_
    (repeat' ((conv => whnf); refine NBr.yes ?_)); (all_goals (conv => whnf))
    all_goals (refine NEnd.eq ?_; (repeat' (first | exact leW_refl _ | refine And.intro ?_ ?_ | exact rfl)))
  · have ho := h2 hz
    have g1 : ((c : Int) == 0) = false := by rw [beq_eq_false_iff_ne]; omega
    have g2 : decide ((c : Int) > 0) = true := decide_eq_true (by omega)
    have g3 : decide ((o : Int) ≥ 0) = true := decide_eq_true (by omega)
    have g4 : decide ((o : Int) ≤ n) = true := decide_eq_true (by omega)
    refine acalls_vc 25 _ tabOk mixed Tryz.func17 rfl (by kernel_rfl) rfl rfl rfl rfl fun W0 fp0 z0 => ?_
    (repeat' ((conv => whnf); first | refine NBr.yes ?_ | refine NBr.pos (by assumption) ?_ | refine NBr.neg (by assumption) ?_)); (all_goals (conv => whnf))
    all_goals (refine NEnd.eq ?_; (repeat' (first | refine And.intro ?_ ?_ | exact rfl)); (all_goals (conv => whnf)))
    all_goals assumption
theorem gt_yes {n : Nat} {k : Int} (h : (n : Int) > k) : decide ((n : Int) > k) = true := by simpa using h
theorem gt_no {n : Nat} {k : Int} (h : ¬ (n : Int) > k) : decide ((n : Int) > k) = false := by simpa using h
theorem lawSubjects (id b : List UInt8) (hi : id.length ≤ big) (hb : b.length ≤ big) : ACalls Tryz.prog 3 [.d (bytesD false id), .d (bytesD false b)] (fun r => r = bv true) := by
  have hA := awake15
  unfold big at hi hb
  by_cases h1 : (id.length : Int) > 2000
  · have g1 := gt_yes h1
    clear h1
    refine acalls_vc 82 _ tabOk mixed Tryz.func3 rfl (by kernel_rfl) rfl rfl rfl rfl fun W0 fp0 z0 => ?_
    (repeat' ((conv => whnf); first | refine NBr.yes ?_ | refine NBr.no ?_ | refine NBr.pos (by assumption) ?_ | refine NCall.eq (hA) (by rfl) ?_)); (all_goals (conv => whnf))
    all_goals (refine NEnd.eq ?_; (repeat' (first | exact leW_refl _ | refine And.intro ?_ ?_ | exact rfl)))
  have g1 := gt_no h1
  by_cases h2 : (b.length : Int) > 2000
  · have g2 := gt_yes h2
    clear h1 h2
    refine acalls_vc 82 _ tabOk mixed Tryz.func3 rfl (by kernel_rfl) rfl rfl rfl rfl fun W0 fp0 z0 => ?_
    (repeat' ((conv => whnf); first | refine NBr.no ?_ | refine NBr.pos (by assumption) ?_ | refine NBr.neg (by assumption) ?_ | refine NCall.eq (hA) (by rfl) ?_)); (all_goals (conv => whnf))
    all_goals (refine NEnd.eq ?_; (repeat' (first | exact leW_refl _ | refine And.intro ?_ ?_ | exact rfl)))
  have g2 := gt_no h2
  have he := encS_len 0 4 false id (by omega)
  have hM := mSubject_any id (by omega)
  have hP1 := pSubject_any (encS 0 4 false id) (by omega)
  rw [psS_put id (by omega)] at hP1
  have hP2 := pSubject_any b (by omega)
  have hdv := deep_v b
  have hR := rpSubject_any b (by omega) (by omega)
  rw [rpsS_eq b (by omega)] at hR
  have hRM := rmSubject_any id (by omega)
  have hB1 := bytesEq_any false false (encS 0 4 false id) (encS 0 4 false id) (by omega) (by omega)
  have hB2 := bytesEq_any false false id id (by omega) (by omega)
  have hpl : (psS b).1.length ≤ 100000000 := by
    by_cases h : (psS b).2.1 = 0
    · obtain ⟨q1, q2, q3⟩ := psS_inv h
      have hL := (Tv.mk 0 4 false (psS b).1).len
      have := congrArg List.length q1
      rw [encS_tv, hL] at this
      have h4 : (Tv.mk 0 4 false (psS b).1).v.length = (psS b).1.length := rfl
      omega
    · rw [(psS_bad h).1]; simp
  have hB3 := bytesEq_any false false (psS b).1 (psS b).1 (by omega) (by omega)
  have hWi := wi_any (psS b).2.1 (psS b).2.2 b.length (fun h => (psS_inv h).2.2) (fun h => (psS_bad h).2)
  rw [beq_self_eq_true] at hB1 hB2 hB3
  generalize psS b = q at hP2 hR hB3 hWi hpl
  obtain ⟨v, cd, of⟩ := q
  simp only at hP2 hR hB3 hWi hpl
  have gz : ((cd : Int) == 0) = (cd == 0) := beq_cast cd 0
  clear h1 h2
  cases hz : (cd == 0)
  · rw [hz] at gz hR
    have gq : (((cd : Int) == 0) == false) = true := by rw [gz]; rfl
    refine acalls_vc 82 _ tabOk mixed Tryz.func3 rfl (by kernel_rfl) rfl rfl rfl rfl fun W0 fp0 z0 => ?_
    (repeat' ((conv => whnf); first | refine NBr.yes ?_ | refine NBr.no ?_ | refine NBr.pos (by assumption) ?_ | refine NBr.neg (by assumption) ?_ | refine NCall.eq (hA) (by rfl) ?_ | refine NCall.eq (hM) (by first | rfl | (simp only [AV.gives, AV.give, un_bytesD]; first | done | rfl)) ?_ | refine NCall.eq (hP1) (by first | rfl | (simp only [AV.gives, AV.give, un_bytesD, uns_bytesL]; first | done | rfl)) ?_ | refine NCall.eq (hP2) (by first | rfl | (simp only [AV.gives, AV.give, un_bytesD]; first | done | rfl)) ?_ | refine NCall.eq (hR) (by first | rfl | (simp only [AV.gives, AV.give, un_bytesD]; first | done | rfl)) ?_ | refine NCall.eq (hRM) (by first | rfl | (simp only [AV.gives, AV.give, un_bytesD]; first | done | rfl)) ?_ | refine NCall.eq (hB1) (by first | rfl | (simp only [AV.gives, AV.give, un_bytesD, uns_bytesL]; first | done | rfl)) ?_ | refine NCall.eq (hB2) (by first | rfl | (simp only [AV.gives, AV.give, un_bytesD]; first | done | rfl)) ?_ | refine NCall.eq (hB3) (by first | rfl | (simp only [AV.gives, AV.give, un_bytesD]; first | done | rfl)) ?_ | refine NCall.eq (hWi) (by rfl) ?_ | refine NStep.go (step_neEr rfl rfl (ltN rfl) rfl rfl) ?_)); (all_goals (conv => whnf))
    all_goals (refine NEnd.eq ?_; (repeat' (first | exact leW_refl _ | refine And.intro ?_ ?_ | exact rfl)))
  · rw [hz] at gz hR
    have gq : (((cd : Int) == 0) == true) = true := by rw [gz]; rfl
    refine acalls_vc 82 _ tabOk mixed Tryz.func3 rfl (by kernel_rfl) rfl rfl rfl rfl fun W0 fp0 z0 => ?_
    (repeat' ((conv => whnf); first | refine NBr.yes ?_ | refine NBr.no ?_ | refine NBr.pos (by assumption) ?_ | refine NBr.neg (by assumption) ?_ | refine NCall.eq (hA) (by rfl) ?_ | refine NCall.eq (hM) (by first | rfl | (simp only [AV.gives, AV.give, un_bytesD]; first | done | rfl)) ?_ | refine NCall.eq (hP1) (by first | rfl | (simp only [AV.gives, AV.give, un_bytesD, uns_bytesL]; first | done | rfl)) ?_ | refine NCall.eq (hP2) (by first | rfl | (simp only [AV.gives, AV.give, un_bytesD]; first | done | rfl)) ?_ | refine NCall.eq (hR) (by first | rfl | (simp only [AV.gives, AV.give, un_bytesD]; first | done | rfl)) ?_ | refine NCall.eq (hRM) (by first | rfl | (simp only [AV.gives, AV.give, un_bytesD]; first | done | rfl)) ?_ | refine NCall.eq (hB1) (by first | rfl | (simp only [AV.gives, AV.give, un_bytesD, uns_bytesL]; first | done | rfl)) ?_ | refine NCall.eq (hB2) (by first | rfl | (simp only [AV.gives, AV.give, un_bytesD]; first | done | rfl)) ?_ | refine NCall.eq (hB3) (by first | rfl | (simp only [AV.gives, AV.give, un_bytesD]; first | done | rfl)) ?_ | refine NCall.eq (hWi) (by rfl) ?_ | refine NStep.go (step_neEr rfl rfl (ltN rfl) rfl rfl) ?_)); (all_goals (conv => whnf))
    all_goals (refine NEnd.eq ?_; (repeat' (first | exact leW_refl _ | refine And.intro ?_ ?_ | exact rfl)))
end Go.Proofs.YtblabcopgeobgaaGreatDoor
