/- MD: the texts Tlv Tlv2 Tlv3 El Cmp Ref1 Ref2 Ref3 Ref4 Rev Min Grow Concat List Ord Ref5 Split, one behind the other. No condition but what each lemma says. -/
import Derived.Test.YtblabcopgeobgaaGreatDoorMC
import Derived.Test.YtblabcopgeobgaaGreatDoorMB
import Derived.Test.YtblabcopgeobgaaGreatDoorShelf
import Derived.Shelf.SlicesE.Reverse
import Derived.Shelf.Spec.SlicesGrow
namespace Go.Proofs.YtblabcopgeobgaaGreatDoor
open Go.RowKit
def badId (c n : Int) : Bool := decide (c < 0) || decide (c > 3) || decide (n < 0) || decide (n ≥ 31)
def idN (c : Int) (k : Bool) (n : Int) : Nat := (c * 64 + n).toNat + (if k then 32 else 0)
def idX (c n : Int) : Int := IntKind.u8.wrap (IntKind.i64.wrap ((BitVec.ofInt 64 (IntKind.i64.wrap (c * 2 ^ 6)) ||| BitVec.ofInt 64 n).toNat : Int))
theorem id_bits : ∀ c : Fin 4, ∀ n : Fin 31, idX c.1 n.1 = (idN c.1 false n.1 : Nat) ∧ IntKind.u8.wrap ((BitVec.ofInt 8 (idX c.1 n.1) ||| BitVec.ofInt 8 32).toNat : Int) = (idN c.1 true n.1 : Nat) := by decide +kernel
theorem id_at {c n : Int} (h : badId c n = false) : idX c n = (idN c false n : Nat) ∧ IntKind.u8.wrap ((BitVec.ofInt 8 (idX c n) ||| BitVec.ofInt 8 32).toNat : Int) = (idN c true n : Nat) := by
 simp only [badId, Bool.or_eq_false_iff, decide_eq_false_iff_not] at h
 obtain ⟨c', rfl⟩ : ∃ c' : Nat, c = c' := ⟨c.toNat, by omega⟩
 obtain ⟨n', rfl⟩ : ∃ n' : Nat, n = n' := ⟨n.toNat, by omega⟩
 exact id_bits ⟨c', by omega⟩ ⟨n', by omega⟩
set_option maxRecDepth 100000 in
set_option maxHeartbeats 4000000 in
theorem ident_any (c n : Int) (k : Bool) : ACalls Tryz.prog 89 [iv c, bv k, iv n] (fun r => r = if badId c n then .tup [cv 0, iv 9] else .tup [cv (idN c k n), iv 0]) := by
 cases hb : badId c n with
 | true =>
   have hb' := hb
   simp only [badId, Bool.or_eq_true, decide_eq_true_eq] at hb'
   refine acalls_vc 32 _ tabOk mixed Tryz.func89 rfl (by kernel_rfl) rfl rfl rfl rfl fun W0 fp0 z0 => ?_
   (repeat' ((conv => whnf); first | refine NBr.yes ?_ | refine NBr.no ?_ | (refine NBr.dec (fun hc hcP => ?_) (fun hc hcP => ?_) <;> try (exfalso; omega)))); (all_goals (conv => whnf))
   all_goals (refine NEnd.eq ?_; (repeat' (first | exact leW_refl _ | refine And.intro ?_ ?_ | exact rfl)))
 | false =>
   have hb' := hb
   simp only [badId, Bool.or_eq_false_iff, decide_eq_false_iff_not] at hb'
   refine acalls_vc 32 _ tabOk mixed Tryz.func89 rfl (by kernel_rfl) rfl rfl rfl rfl fun W0 fp0 z0 => ?_
   cases k
   all_goals
    (repeat' ((conv => whnf); first | refine NBr.yes ?_ | refine NBr.no ?_ | refine NFact.go (by first | decide | omega | (simp only [List.length_cons, List.length_nil]; omega)) ?_ | refine NInt.as _ rfl ?_ | (refine NBr.dec (fun hc hcP => ?_) (fun hc hcP => ?_) <;> try (exfalso; omega)))); (all_goals (conv => whnf))
    (refine NEnd.eq ?_; (repeat' (first | exact trivial | exact leW_refl _ | refine And.intro ?_ ?_ | exact rfl)); (all_goals (conv => whnf)))
   ·exact (id_at hb).1
   ·exact (id_at hb).2
theorem ident_ok {c n : Int} (k : Bool) (h : badId c n = false) : ACalls Tryz.prog 89 [iv c, bv k, iv n] (fun r => r = .tup [cv (idN c k n), iv 0]) := (ident_any c n k).mono fun r hr => by rw [hr, h]; rfl
def ridX (x : Nat) : AV := if x % 32 = 31 then .tup [iv 0, bv false, iv 0, iv 3] else .tup [iv (x / 64 : Nat), bv (x / 32 % 2 == 1), iv (x % 32 : Nat), iv 0]
theorem rid_bits : ∀ x : Fin 256, (IntKind.u8.wrap ((BitVec.ofInt 8 (x.1 : Int) &&& BitVec.ofInt 8 31).toNat : Int)) = (x.1 % 32 : Nat) ∧ (IntKind.u8.wrap ((BitVec.ofInt 8 (x.1 : Int) &&& BitVec.ofInt 8 32).toNat : Int)) = (x.1 / 32 % 2 * 32 : Nat) ∧ IntKind.i64.wrap ((x.1 : Int).fdiv (2 ^ 6)) = (x.1 / 64 : Nat) ∧ IntKind.i64.wrap (x.1 % 32 : Nat) = (x.1 % 32 : Nat) := by decide +kernel
set_option maxRecDepth 100000 in
set_option maxHeartbeats 4000000 in
theorem readId_any (x : Nat) (hx : x < 256) : ACalls Tryz.prog 119 [cv x] (fun r => r = ridX x) := by
 obtain ⟨b1, b2, b3, b4⟩ := rid_bits ⟨x, hx⟩
 simp only at b1 b2 b3 b4
 by_cases hx31 : x % 32 = 31
 ·rw [ridX, if_pos hx31]
  refine acalls_vc 18 _ tabOk mixed Tryz.func119 rfl (by kernel_rfl) rfl rfl rfl rfl fun W0 fp0 z0 => ?_
  (repeat' ((conv => whnf); first | refine NInt.as (((x % 32 : Nat) : Int) ) ( b1) ?_ | (refine NBr.dec (fun hc hcP => ?_) (fun hc hcP => ?_) <;> try (exfalso; omega)))); (all_goals (conv => whnf))
  all_goals (refine NEnd.eq ?_; (repeat' (first | exact leW_refl _ | refine And.intro ?_ ?_ | exact rfl)))
 ·rw [ridX, if_neg hx31]
  refine acalls_vc 18 _ tabOk mixed Tryz.func119 rfl (by kernel_rfl) rfl rfl rfl rfl fun W0 fp0 z0 => ?_
  (repeat' ((conv => whnf); first | refine NInt.as (((x % 32 : Nat) : Int) ) ( b1) ?_ | refine NInt.as (((x / 32 % 2 * 32 : Nat) : Int) ) ( b2) ?_ | (with_reducible refine NInt.i64 ?_) | (with_reducible refine NInt.shr ?_) | refine NFact.go (by first | decide | omega | (simp only [List.length_cons, List.length_nil]; omega)) ?_ | refine NInt.as _ rfl ?_ | (refine NBr.dec (fun hc hcP => ?_) (fun hc hcP => ?_) <;> try (exfalso; omega)))); (all_goals (conv => whnf))
  all_goals (refine NEnd.eq ?_; (repeat' (first | exact trivial | exact leW_refl _ | refine And.intro ?_ ?_ | exact rfl)); (all_goals (conv => whnf)))
  have b5 : IntKind.i64.wrap ((x / 64 : Nat) : Int) = ((x / 64 : Nat) : Int) := IntWalk.i64_in _ (by omega)
  all_goals first | exact b3 | exact b4 | exact b5 | skip
  rw [Bool.eq_iff_iff]; simp only [bne_iff_ne, ne_eq, beq_iff_eq]; omega
def failX (c o : Int) : AV := .tup [iv 0, iv 0, .agg [iv c, iv o]]
set_option maxRecDepth 100000 in
set_option maxHeartbeats 4000000 in
theorem rlFail_any (c o : Int) : ACalls Tryz.prog 139 [iv c, iv o] (fun r => r = failX c o) := by
 refine acalls_vc 10 _ tabOk mixed Tryz.func139 rfl (by kernel_rfl) rfl rfl rfl rfl fun W0 fp0 z0 => ?_
 (all_goals (conv => whnf))
 all_goals (refine NEnd.eq ?_; (repeat' (first | exact leW_refl _ | refine And.intro ?_ ?_ | exact rfl)))
 all_goals rfl
end Go.Proofs.YtblabcopgeobgaaGreatDoor

namespace Go.Proofs.YtblabcopgeobgaaGreatDoor
open Go.RowKit
def beV (l : List UInt8) : Nat := l.foldl (fun a b => a * 256 + b.toNat) 0
theorem beV_snoc (l : List UInt8) (b : UInt8) : beV (l ++ [b]) = beV l * 256 + b.toNat := by simp [beV]
theorem beV_lt (l : List UInt8) : beV l < 256 ^ l.length := by
 have gen : ∀ (l : List UInt8) (a : Nat), l.foldl (fun a b => a * 256 + b.toNat) a < (a + 1) * 256 ^ l.length := by
  intro l
  induction l with
  | nil => intro a; simp
  | cons b r ih =>
    intro a
    rw [List.foldl_cons, List.length_cons, Nat.pow_succ]
    have h := ih (a * 256 + b.toNat)
    have hb := b.toNat_lt
    refine Nat.lt_of_lt_of_le h ?_
    rw [Nat.mul_comm (256 ^ r.length) 256, ← Nat.mul_assoc]
    exact Nat.mul_le_mul_right _ (by omega)
 have := gen l 0
 simpa [beV] using this
def rlS : List UInt8 → Nat × Nat × Nat × Nat
 | [] => (0, 0, 1, 0)
 | x :: r => if x.toNat < 128 then (x.toNat, 1, 0, 0) else if x.toNat = 128 ∨ x.toNat > 132 then (0, 0, 4, 0) else if r.length < x.toNat - 128 then (0, 0, 1, r.length + 1) else
     if (r.headD 0).toNat = 0 ∨ beV (r.take (x.toNat - 128)) < 128 ∨ beV (r.take (x.toNat - 128)) > 2147483647 then (0, 0, 4, 0) else (beV (r.take (x.toNat - 128)), x.toNat - 127, 0, 0)
def rlA (p : Nat × Nat × Nat × Nat) : AV := .tup [iv p.1, iv p.2.1, .agg [iv p.2.2.1, iv p.2.2.2]]
theorem rlS_small {x : UInt8} {r : List UInt8} (h : x.toNat < 128) : rlS (x :: r) = (x.toNat, 1, 0, 0) := by rw [rlS, if_pos h]
theorem rlS_form {x : UInt8} {r : List UInt8} (h : 128 ≤ x.toNat) (h2 : x.toNat = 128 ∨ x.toNat > 132) : rlS (x :: r) = (0, 0, 4, 0) := by rw [rlS, if_neg (by omega), if_pos h2]
theorem rlS_short {x : UInt8} {r : List UInt8} (h : 128 < x.toNat) (h2 : x.toNat ≤ 132) (h3 : r.length < x.toNat - 128) : rlS (x :: r) = (0, 0, 1, r.length + 1) := by rw [rlS, if_neg (by omega), if_neg (by omega), if_pos h3]
theorem rlS_bad {x y : UInt8} {s : List UInt8} {k : Nat} (hk : x.toNat = k + 128) (h : 1 ≤ k) (h2 : k ≤ 4) (h3 : k ≤ s.length + 1) (h4 : y.toNat = 0 ∨ beV ((y :: s).take k) < 128 ∨ beV ((y :: s).take k) > 2147483647) : rlS (x :: y :: s) = (0, 0, 4, 0) := by
 rw [rlS, hk, Nat.add_sub_cancel]
 rw [if_neg (by omega), if_neg (by omega), if_neg (by rw [List.length_cons]; omega)]; exact if_pos h4
theorem rlS_ok {x y : UInt8} {s : List UInt8} {k : Nat} (hk : x.toNat = k + 128) (h : 1 ≤ k) (h2 : k ≤ 4) (h3 : k ≤ s.length + 1) (h4 : ¬ (y.toNat = 0 ∨ beV ((y :: s).take k) < 128 ∨ beV ((y :: s).take k) > 2147483647)) : rlS (x :: y :: s) = (beV ((y :: s).take k), k + 1, 0, 0) := by
 rw [rlS, hk, Nat.add_sub_cancel]
 rw [if_neg (by omega), if_neg (by omega), if_neg (by rw [List.length_cons]; omega)]; refine (if_neg h4).trans ?_
 rw [show k + 128 - 127 = k + 1 by omega]
theorem or_shift (n : Nat) (b : UInt8) (hn : n < 4294967296) : IntKind.i64.wrap ((BitVec.ofInt IntKind.i64.bits (IntKind.i64.wrap ((n : Int) * 2 ^ (min (Int.toNat 8) IntKind.i64.bits))) ||| BitVec.ofInt IntKind.i64.bits (b.toNat : Int)).toNat : Int) = ((n * 256 + b.toNat : Nat) : Int) := by
 have hb := b.toNat_lt
 have e1 : IntKind.i64.wrap ((n : Int) * 2 ^ (min (Int.toNat 8) IntKind.i64.bits)) = ((n * 256 : Nat) : Int) := by
  have : (2 : Int) ^ (min (Int.toNat 8) IntKind.i64.bits) = 256 := by decide
  rw [this, IntWalk.i64_in _ (by omega)]; omega
 rw [e1, BitVec.toNat_or, BitVec.ofInt_natCast, BitVec.ofInt_natCast, BitVec.toNat_ofNat, BitVec.toNat_ofNat]
 have hb64 : 2 ^ IntKind.i64.bits = 18446744073709551616 := by decide
 rw [hb64, Nat.mod_eq_of_lt (by omega), Nat.mod_eq_of_lt (by omega)]
 have : n * 256 ||| b.toNat = n * 256 + b.toNat := by
  have h := Nat.shiftLeft_add_eq_or_of_lt (i := 8) (b := b.toNat) (by omega) n
  rw [Nat.shiftLeft_eq] at h
  exact h.symm
 rw [this, IntWalk.i64_in _ (by omega)]
set_option maxRecDepth 100000 in
set_option maxHeartbeats 8000000 in
theorem readLen_any (l : List UInt8) (hl : l.length ≤ 1000000000) : ACalls Tryz.prog 120 [.d (bytesD false l)] (fun r => r = rlA (rlS l)) := by
 cases l with
 | nil =>
   refine acalls_vc 87 _ tabOk mixed Tryz.func120 rfl (by kernel_rfl) rfl rfl rfl rfl fun W0 fp0 z0 => ?_
   (repeat' ((conv => whnf); first | refine NBr.yes ?_ | refine NCall.eq (rlFail_any _ _) (by rfl) ?_)); (all_goals (conv => whnf))
   all_goals (refine NEnd.eq ?_; (repeat' (first | exact leW_refl _ | refine And.intro ?_ ?_ | exact rfl)))
 | cons x r =>
   have hx := x.toNat_lt
   have h0 : (x :: r)[0]? = some x := rfl
   simp only [List.length_cons] at hl
   refine acalls_vc 87 _ tabOk mixed Tryz.func120 rfl (by kernel_rfl) rfl rfl rfl rfl fun W0 fp0 z0 => ?_
   (repeat' ((conv => whnf); first | refine NBr.yes ?_ | refine NBr.no ?_ | refine NCall.eq (rlFail_any _ _) (by rfl) ?_ | refine NIdx.bytes h0 ?_ | (with_reducible refine NInt.i64 ?_) | (refine NBr.dec (fun hc hcP => ?_) (fun hc hcP => ?_) <;> try (exfalso; omega)))); (all_goals (conv => whnf))
   all_goals try (simp only [List.length_cons] at *; first | (rw [rlS_small (by omega)]; (refine NEnd.eq ?_; (repeat' (first | exact leW_refl _ | refine And.intro ?_ ?_ | exact rfl)))) | (rw [rlS_form (by omega) (by omega)]; (refine NEnd.eq ?_; (repeat' (first | exact leW_refl _ | refine And.intro ?_ ?_ | exact rfl)))) | (rw [rlS_short (by omega) (by omega) (by omega)]; (refine NEnd.eq ?_; (repeat' (first | exact leW_refl _ | refine And.intro ?_ ?_ | exact rfl)))))
   simp only [List.length_cons] at *
   obtain ⟨k, hk⟩ : ∃ k : Nat, x.toNat = k + 128 := ⟨x.toNat - 128, by omega⟩
   refine NLoop.go (fun i : Nat => 1 ≤ i ∧ i ≤ k + 1) (fun i => k + 1 - i) (fun i => ⟨[(0, .d (bytesD false (x :: r))), (4, .ptr 4 0), (5, .d (.fn 139 [])), (6, iv k), (7, iv (beV (r.take (i - 1)))), (8, iv i)], [(4, [iv 0, iv 0])], []⟩) 1 (by omega) (by ((repeat' (first | exact trivial | exact leW_refl _ | refine And.intro ?_ ?_ | exact rfl | omega)))) ?_
   intro i hi
   have hbv := beV_lt (r.take (i - 1))
   by_cases hik : i ≤ k
   ·obtain ⟨b, hb⟩ : ∃ b, (x :: r)[i]? = some b := ⟨_, List.getElem?_eq_getElem (by simp only [List.length_cons]; omega)⟩
    have hn32 : beV (r.take (i - 1)) < 4294967296 := by
     refine Nat.lt_of_lt_of_le hbv ?_
     refine Nat.le_trans (Nat.pow_le_pow_right (by omega) (show (r.take (i - 1)).length ≤ 4 by rw [List.length_take]; omega)) (by decide)
    have hor := or_shift (beV (r.take (i - 1))) b hn32
    have hsn : beV (r.take i) = beV (r.take (i - 1)) * 256 + b.toNat := by
     obtain ⟨j, rfl⟩ : ∃ j, i = j + 1 := ⟨i - 1, by omega⟩
     have hj : j < r.length := by omega
     have : r[j]? = some b := by simpa using hb
     rw [List.getElem?_eq_getElem hj] at this
     rw [List.take_succ_eq_append_getElem hj, beV_snoc, Nat.add_sub_cancel]
     cases this; rfl
    rw [← hsn] at hor
    have hbl := b.toNat_lt
    (repeat' ((conv => whnf); first | refine NIdx.bytes hb ?_ | refine NInt.as (((beV (r.take i) : Nat) : Int) ) ( hor) ?_ | (with_reducible refine NInt.i64 ?_) | refine NFact.go (by first | decide | omega | (simp only [List.length_cons, List.length_nil]; omega)) ?_ | refine NInt.as _ rfl ?_ | (refine NBr.dec (fun hc hcP => ?_) (fun hc hcP => ?_) <;> try (exfalso; omega)))); (all_goals (conv => whnf))
    refine ⟨i + 1, by omega, by omega, ?_⟩
    ((repeat' (first | exact trivial | exact leW_refl _ | refine And.intro ?_ ?_)))
   ·obtain rfl : i = k + 1 := by omega
    cases r with
    | nil => simp only [List.length_nil] at *; omega
    | cons y s =>
      have h1 : (x :: y :: s)[1]? = some y := rfl
      have hy := y.toNat_lt
      rw [Nat.add_sub_cancel] at *
      simp only [List.length_cons] at *
      (repeat' ((conv => whnf); first | refine NBr.yes ?_ | refine NBr.no ?_ | refine NIdx.bytes h1 ?_ | refine NCall.eq (rlFail_any _ _) (by rfl) ?_ | (with_reducible refine NInt.i64 ?_) | (refine NBr.dec (fun hc hcP => ?_) (fun hc hcP => ?_) <;> try (exfalso; omega)))); (all_goals (conv => whnf))
      all_goals first | (rw [rlS_bad hk (by omega) (by omega) (by omega) (by omega)]; (refine NEnd.eq ?_; (repeat' (first | exact leW_refl _ | refine And.intro ?_ ?_ | exact rfl)))) | (rw [rlS_ok hk (by omega) (by omega) (by omega) (by omega)]; (refine NEnd.eq ?_; (repeat' (first | exact trivial | exact leW_refl _ | refine And.intro ?_ ?_ | exact rfl | (dsimp only; omega)))))
end Go.Proofs.YtblabcopgeobgaaGreatDoor

namespace Go.Proofs.YtblabcopgeobgaaGreatDoor
open Go.RowKit
theorem readId_bad {x : UInt8} (h : x.toNat % 32 = 31) : ACalls Tryz.prog 119 [cv x.toNat] (fun r => r = .tup [iv 0, bv false, iv 0, iv 3]) := (readId_any x.toNat x.toNat_lt).mono fun r hr => by rw [hr, ridX, if_pos h]
theorem readId_ok {x : UInt8} (h : ¬ x.toNat % 32 = 31) : ACalls Tryz.prog 119 [cv x.toNat] (fun r => r = .tup [iv (x.toNat / 64 : Nat), bv (x.toNat / 32 % 2 == 1), iv (x.toNat % 32 : Nat), iv 0]) := (readId_any x.toNat x.toNat_lt).mono fun r hr => by rw [hr, ridX, if_neg h]
structure Hd where
 c : Nat
 n : Nat
 k : Bool
 len : Nat
 size : Nat
 code : Nat
 off : Nat
def Hd.bad (code off : Nat) : Hd := ⟨0, 0, false, 0, 0, code, off⟩
def rhS : List UInt8 → Hd
 | [] => .bad 1 0
 | x :: r => if x.toNat % 32 = 31 then .bad 3 0 else if (rlS r).2.2.1 = 0 then ⟨x.toNat / 64, x.toNat % 32, x.toNat / 32 % 2 == 1, (rlS r).1, (rlS r).2.1 + 1, 0, 0⟩ else .bad (rlS r).2.2.1 ((rlS r).2.2.2 + 1)
def hdA (h : Hd) : AV := .agg [iv h.c, iv h.n, bv h.k, iv h.len, iv h.size]
def erA (c o : Int) : AV := .agg [iv c, iv o]
def rhA (h : Hd) : AV := .tup [hdA h, erA h.code h.off]
theorem rlS_bounds (l : List UInt8) : (rlS l).2.1 ≤ 5 ∧ (rlS l).2.2.2 ≤ l.length ∧ (rlS l).1 ≤ 2147483647 ∧ ((rlS l).2.2.1 = 0 → (rlS l).2.1 ≤ l.length ∧ 1 ≤ (rlS l).2.1 ∧ (rlS l).2.2.2 = 0) ∧ (rlS l).2.2.1 ≤ 4 := by
 cases l with
 | nil => simp [rlS]
 | cons x r =>
   have hx := x.toNat_lt
   rw [rlS]
   by_cases h1 : x.toNat < 128
   ·rw [if_pos h1]; simp; omega
   rw [if_neg h1]
   by_cases h2 : x.toNat = 128 ∨ x.toNat > 132
   ·rw [if_pos h2]; simp
   rw [if_neg h2]
   by_cases h3 : r.length < x.toNat - 128
   ·rw [if_pos h3]; simp
   rw [if_neg h3]
   by_cases h4 : (r.headD 0).toNat = 0 ∨ beV (r.take (x.toNat - 128)) < 128 ∨ beV (r.take (x.toNat - 128)) > 2147483647
   ·rw [if_pos h4]; simp
   ·rw [if_neg h4]; simp; omega
set_option maxRecDepth 100000 in
set_option maxHeartbeats 8000000 in
theorem readHead_any (l : List UInt8) (hl : l.length ≤ 1000000000) : ACalls Tryz.prog 92 [.d (bytesD false l)] (fun r => r = rhA (rhS l)) := by
 cases l with
 | nil =>
   refine acalls_vc 54 _ tabOk mixed Tryz.func92 rfl (by kernel_rfl) rfl rfl rfl rfl fun W0 fp0 z0 => ?_
   (repeat' ((conv => whnf); refine NBr.yes ?_)); (all_goals (conv => whnf))
   all_goals (refine NEnd.eq ?_; (repeat' (first | exact leW_refl _ | refine And.intro ?_ ?_ | exact rfl)))
 | cons x r =>
   have hx := x.toNat_lt
   have h0 : (x :: r)[0]? = some x := rfl
   simp only [List.length_cons] at hl
   obtain ⟨b1, b2, b3, b4, b5⟩ := rlS_bounds r
   by_cases h31 : x.toNat % 32 = 31
   ·rw [rhS, if_pos h31]
    refine acalls_vc 54 _ tabOk mixed Tryz.func92 rfl (by kernel_rfl) rfl rfl rfl rfl fun W0 fp0 z0 => ?_
    (repeat' ((conv => whnf); first | refine NBr.yes ?_ | refine NBr.no ?_ | refine NCall.eq (readId_bad h31) (by rfl) ?_ | refine NIdx.bytes h0 ?_)); (all_goals (conv => whnf))
    all_goals (refine NEnd.eq ?_; (repeat' (first | exact leW_refl _ | refine And.intro ?_ ?_ | exact rfl)))
   ·refine acalls_vc 54 _ tabOk mixed Tryz.func92 rfl (by kernel_rfl) rfl rfl rfl rfl fun W0 fp0 z0 => ?_
    (repeat' ((conv => whnf); first | refine NBr.no ?_ | refine NCall.eq (readId_ok h31) (by rfl) ?_ | refine NCall.eq (readLen_any r (by omega)) (by first | rfl | (simp only [AV.gives, AV.give, D.un, uns_bytesL]; first | done | rfl)) ?_ | refine NIdx.bytes h0 ?_ | refine NSl.from (1) ?_ | (with_reducible refine NInt.i64 ?_) | refine NFact.go ⟨by decide +kernel, by kernel_rfl⟩ ?_ | (refine NBr.bne (fun hc hcP => ?_) (fun hc hcP => ?_) <;> try (exfalso; omega)))); (all_goals (conv => whnf))
    ·have hz : ¬ (rlS r).2.2.1 = 0 := by omega
     rw [rhS, if_neg h31, if_neg hz]; (refine NEnd.eq ?_; (repeat' (first | exact leW_refl _ | refine And.intro ?_ ?_ | exact rfl)))
    ·have hz : (rlS r).2.2.1 = 0 := by omega
     rw [rhS, if_neg h31, if_pos hz]; (refine NEnd.eq ?_; (repeat' (first | exact trivial | exact leW_refl _ | refine And.intro ?_ ?_ | exact rfl | (dsimp only; omega))))
end Go.Proofs.YtblabcopgeobgaaGreatDoor

namespace Go.Proofs.YtblabcopgeobgaaGreatDoor
open Go.RowKit
theorem rhS_bounds (l : List UInt8) : ((rhS l).code = 0 → 2 ≤ (rhS l).size ∧ (rhS l).size ≤ l.length ∧ (rhS l).off = 0) ∧ (rhS l).size ≤ 6 ∧ (rhS l).off ≤ l.length ∧ (rhS l).len ≤ 2147483647 ∧ (rhS l).code ≤ 4 ∧ (rhS l).c ≤ 3 ∧ (rhS l).n ≤ 30 := by
 cases l with
 | nil => simp [rhS, Hd.bad]
 | cons x r =>
   have hx := x.toNat_lt
   obtain ⟨b1, b2, b3, b4, b5⟩ := rlS_bounds r
   rw [rhS]
   by_cases h1 : x.toNat % 32 = 31
   ·rw [if_pos h1]; simp [Hd.bad]
   rw [if_neg h1]
   by_cases h2 : (rlS r).2.2.1 = 0
   ·rw [if_pos h2]
    have := b4 h2
    simp only [List.length_cons]
    refine ⟨fun _ => ⟨?_, ?_, ?_⟩, ?_, ?_, ?_, ?_, ?_, ?_⟩ <;> omega
   ·rw [if_neg h2]
    simp only [Hd.bad, List.length_cons]
    refine ⟨fun h => absurd h h2, ?_, ?_, ?_, ?_, ?_, ?_⟩ <;> omega
structure El where
 c : Nat
 n : Nat
 k : Bool
 at' : Nat
 body : Nat
 stop : Nat
 deriving DecidableEq
def El.zero : El := ⟨0, 0, false, 0, 0, 0⟩
structure ElR where
 x : El
 code : Nat
 off : Nat
def ElR.bad (code off : Nat) : ElR := ⟨.zero, code, off⟩
def nxS (b : List UInt8) (at' en : Nat) : ElR :=
 if (rhS ((b.drop at').take (en - at'))).code ≠ 0 then .bad (rhS ((b.drop at').take (en - at'))).code ((rhS ((b.drop at').take (en - at'))).off + at')
 else if en - at' < (rhS ((b.drop at').take (en - at'))).size + (rhS ((b.drop at').take (en - at'))).len then .bad 1 en
 else ⟨⟨(rhS ((b.drop at').take (en - at'))).c, (rhS ((b.drop at').take (en - at'))).n, (rhS ((b.drop at').take (en - at'))).k, at', at' + (rhS ((b.drop at').take (en - at'))).size, at' + (rhS ((b.drop at').take (en - at'))).size + (rhS ((b.drop at').take (en - at'))).len⟩, 0, 0⟩
def elC (e : El) : List D := [.v (.int .i64 e.c), .v (.int .i64 e.n), .v (.bool e.k), .v (.int .i64 e.at'), .v (.int .i64 e.body), .v (.int .i64 e.stop)]
def elA (e : El) : AV := .agg [iv e.c, iv e.n, bv e.k, iv e.at', iv e.body, iv e.stop]
def erR (r : ElR) : AV := .tup [elA r.x, erA r.code r.off]
theorem nxS_head {b : List UInt8} {at' en : Nat} {h : Hd} (hh : rhS ((b.drop at').take (en - at')) = h) (h1 : h.code ≠ 0) : nxS b at' en = .bad h.code (h.off + at') := by
 unfold nxS; rw [hh, if_pos h1]
theorem nxS_short {b : List UInt8} {at' en : Nat} {h : Hd} (hh : rhS ((b.drop at').take (en - at')) = h) (h1 : h.code = 0) (h2 : en - at' < h.size + h.len) : nxS b at' en = .bad 1 en := by
 unfold nxS; rw [hh, if_neg (by omega), if_pos h2]
theorem nxS_ok {b : List UInt8} {at' en : Nat} {h : Hd} (hh : rhS ((b.drop at').take (en - at')) = h) (h1 : h.code = 0) (h2 : h.size + h.len ≤ en - at') : nxS b at' en = ⟨⟨h.c, h.n, h.k, at', at' + h.size, at' + h.size + h.len⟩, 0, 0⟩ := by
 unfold nxS; rw [hh, if_neg (by omega), if_neg (by omega)]
set_option maxRecDepth 100000 in
set_option maxHeartbeats 8000000 in
theorem next_any (b : List UInt8) (at' en : Nat) (hb : b.length ≤ 1000000000) (h1 : at' ≤ en) (h2 : en ≤ b.length) : ACalls Tryz.prog 66 [.d (bytesD false b), iv at', iv en] (fun r => r = erR (nxS b at' en)) := by
 have hlen : ((b.drop at').take (en - at')).length = en - at' := by simp; omega
 have hR := readHead_any ((b.drop at').take (en - at')) (by omega)
 have hB := rhS_bounds ((b.drop at').take (en - at'))
 rw [hlen] at hB
 generalize hh : rhS ((b.drop at').take (en - at')) = h at hR hB
 obtain ⟨c1, c2, c3, c4, c5, c6, c7⟩ := hB
 refine acalls_vc 60 _ tabOk mixed Tryz.func66 rfl (by kernel_rfl) rfl rfl rfl rfl fun W0 fp0 z0 => ?_
 (repeat' ((conv => whnf); first | refine NCall.eq (hR) (by first | rfl | (simp only [AV.gives, AV.give, D.un, uns_bytesL]; first | done | rfl)) ?_ | refine NSl.slice (at') (en) ?_ | (with_reducible refine NInt.i64 ?_) | refine NFact.go ⟨by decide +kernel, by kernel_rfl⟩ ?_ | (refine NBr.mk (fun hc => ?_) (fun hc => ?_) <;> (have hcP := hc; (try simp only [decide_eq_true_eq, decide_eq_false_iff_not, bne_iff_ne, bne_eq_false_iff_eq, ne_eq] at hcP) <;> first | (exfalso; omega) | skip)))); (all_goals (conv => whnf))
 all_goals (refine NEnd.dat rfl (?_ : _ = _); try simp only [AV.dat, AV.dats])
 all_goals
  simp only [decide_eq_true_eq, decide_eq_false_iff_not, bne_iff_ne, bne_eq_false_iff_eq, ne_eq] at *
  first | (rw [nxS_head hh (by omega)]; rfl) | (rw [nxS_short hh (by omega) (by omega)]; rfl) | (rw [nxS_ok hh (by omega) (by omega)]; rfl)
theorem nxS_facts (b : List UInt8) (at' en : Nat) (h1 : at' ≤ en) (h2 : en ≤ b.length) : ((nxS b at' en).code = 0 → (nxS b at' en).x.at' = at' ∧ at' + 2 ≤ (nxS b at' en).x.body ∧ (nxS b at' en).x.body ≤ (nxS b at' en).x.stop ∧ (nxS b at' en).x.stop ≤ en ∧ (nxS b at' en).off = 0) ∧ (nxS b at' en).code ≤ 4 ∧ (nxS b at' en).off ≤ en ∧ (nxS b at' en).x.c ≤ 3 ∧ (nxS b at' en).x.n ≤ 30 ∧ (nxS b at' en).x.stop ≤ en ∧ (nxS b at' en).x.body ≤ (nxS b at' en).x.stop := by
 have hB := rhS_bounds ((b.drop at').take (en - at'))
 have hlen : ((b.drop at').take (en - at')).length = en - at' := by simp; omega
 rw [hlen] at hB
 unfold nxS
 generalize rhS ((b.drop at').take (en - at')) = h at hB
 obtain ⟨c1, c2, c3, c4, c5, c6, c7⟩ := hB
 by_cases k1 : h.code ≠ 0
 ·rw [if_pos k1]; simp only [ElR.bad, El.zero]; omega
 rw [if_neg k1]
 by_cases k2 : en - at' < h.size + h.len
 ·rw [if_pos k2]; simp only [ElR.bad, El.zero]; omega
 have := c1 (by omega)
 rw [if_neg k2]
 refine ⟨fun _ => ⟨rfl, ?_, ?_, ?_, rfl⟩, ?_, ?_, ?_, ?_, ?_, ?_⟩ <;> simp only [] <;> omega
def oneS (b : List UInt8) : ElR := if (nxS b 0 b.length).code = 0 ∧ (nxS b 0 b.length).x.stop < b.length then .bad 2 (nxS b 0 b.length).x.stop else nxS b 0 b.length
set_option maxRecDepth 100000 in
set_option maxHeartbeats 8000000 in
theorem one_any (b : List UInt8) (hb : b.length ≤ 1000000000) : ACalls Tryz.prog 39 [.d (bytesD false b)] (fun r => r = erR (oneS b)) := by
 have hR := next_any b 0 b.length hb (by omega) (by omega)
 have hB := nxS_facts b 0 b.length (by omega) (by omega)
 unfold oneS
 generalize hh : nxS b 0 b.length = h at hR hB ⊢
 obtain ⟨c1, c2, c3, c4, c5, c6, c7⟩ := hB
 by_cases k1 : h.code = 0
 ·by_cases k2 : h.x.stop < b.length
  ·rw [if_pos ⟨k1, k2⟩]
   refine acalls_vc 29 _ tabOk mixed Tryz.func39 rfl (by kernel_rfl) rfl rfl rfl rfl fun W0 fp0 z0 => ?_
   (repeat' ((conv => whnf); first | refine NBr.yes ?_ | refine NCall.eq (hR) (by first | rfl | (simp only [AV.gives, AV.give, D.un, un_bytesD]; first | done | rfl)) ?_ | refine NFact.go ⟨by decide +kernel, by kernel_rfl⟩ ?_ | (refine NBr.mk (fun hc => ?_) (fun hc => ?_) <;> (have hcP := hc; (try simp only [decide_eq_true_eq, decide_eq_false_iff_not, beq_iff_eq, beq_eq_false_iff_ne, ne_eq] at hcP) <;> first | (exfalso; omega) | skip)))); (all_goals (conv => whnf))
   all_goals (refine NEnd.dat rfl (?_ : _ = _); try simp only [AV.dat, AV.dats])
   all_goals rfl
  ·rw [if_neg (fun x => k2 x.2)]
   refine acalls_vc 29 _ tabOk mixed Tryz.func39 rfl (by kernel_rfl) rfl rfl rfl rfl fun W0 fp0 z0 => ?_
   (repeat' ((conv => whnf); first | refine NBr.yes ?_ | refine NCall.eq (hR) (by first | rfl | (simp only [AV.gives, AV.give, D.un, un_bytesD]; first | done | rfl)) ?_ | refine NFact.go ⟨by decide +kernel, by kernel_rfl⟩ ?_ | (refine NBr.mk (fun hc => ?_) (fun hc => ?_) <;> (have hcP := hc; (try simp only [decide_eq_true_eq, decide_eq_false_iff_not, beq_iff_eq, beq_eq_false_iff_ne, ne_eq] at hcP) <;> first | (exfalso; omega) | skip)))); (all_goals (conv => whnf))
   all_goals (refine NEnd.dat rfl (?_ : _ = _); try simp only [AV.dat, AV.dats])
   all_goals rfl
 ·rw [if_neg (fun x => k1 x.1)]
  refine acalls_vc 29 _ tabOk mixed Tryz.func39 rfl (by kernel_rfl) rfl rfl rfl rfl fun W0 fp0 z0 => ?_
  (repeat' ((conv => whnf); first | refine NBr.no ?_ | refine NCall.eq (hR) (by first | rfl | (simp only [AV.gives, AV.give, D.un, un_bytesD]; first | done | rfl)) ?_ | refine NFact.go ⟨by decide +kernel, by kernel_rfl⟩ ?_ | (refine NBr.mk (fun hc => ?_) (fun hc => ?_) <;> (have hcP := hc; (try simp only [beq_iff_eq, beq_eq_false_iff_ne, ne_eq] at hcP) <;> first | (exfalso; omega) | skip)))); (all_goals (conv => whnf))
  all_goals (refine NEnd.dat rfl (?_ : _ = _); try simp only [AV.dat, AV.dats])
  all_goals rfl
def El.isB (e : El) (c n : Nat) (k : Bool) : Bool := e.c == c && e.k == k && e.n == n
theorem beq_cast (a b : Nat) : ((a : Int) == (b : Int)) = (a == b) := by
 rw [Bool.eq_iff_iff]; simp only [beq_iff_eq]; omega
set_option maxRecDepth 100000 in
set_option maxHeartbeats 8000000 in
theorem is_any (e : El) (c n : Nat) (k : Bool) : ACalls Tryz.prog 40 [elA e, iv c, bv k, iv n] (fun r => r = bv (e.isB c n k)) := by
 refine acalls_vc 25 _ tabOk mixed Tryz.func40 rfl (by kernel_rfl) rfl rfl rfl rfl fun W0 fp0 z0 => ?_
 (repeat' ((conv => whnf); first | refine NBr.yes ?_ | refine NBr.no ?_ | (refine NBr.mk (fun hc => ?_) (fun hc => ?_) <;> (have hcP := hc; (try simp only [beq_iff_eq, beq_eq_false_iff_ne, ne_eq] at hcP) <;> first | (exfalso; omega) | skip)))); (all_goals (conv => whnf))
 all_goals (refine NEnd.dat rfl (?_ : _ = _); try simp only [AV.dat])
 all_goals
  simp only [beq_cast] at *
  simp only [El.isB, *]
  first | rfl | (simp; done)
end Go.Proofs.YtblabcopgeobgaaGreatDoor

namespace Go.Proofs.YtblabcopgeobgaaGreatDoor
open Go.RowKit
def cmpB (a b : UInt8) : Int := if a.toNat < b.toNat then -1 else if b.toNat < a.toNat then 1 else 0
def cmpL : List UInt8 → List UInt8 → Int
 | [], [] => 0
 | [], _ :: _ => -1
 | _ :: _, [] => 1
 | a :: r, b :: s => if a.toNat < b.toNat then -1 else if b.toNat < a.toNat then 1 else cmpL r s
theorem cmpL_drop {a b : List UInt8} : ∀ {i : Nat} {x y : UInt8}, a[i]? = some x → b[i]? = some y → cmpL (a.drop i) (b.drop i) = if x.toNat < y.toNat then -1 else if y.toNat < x.toNat then 1 else cmpL (a.drop (i + 1)) (b.drop (i + 1)) := by
 intro i x y h1 h2
 obtain ⟨l1, e1⟩ := List.getElem?_eq_some_iff.1 h1
 obtain ⟨l2, e2⟩ := List.getElem?_eq_some_iff.1 h2
 rw [List.drop_eq_getElem_cons l1, List.drop_eq_getElem_cons l2, e1, e2, cmpL]
set_option maxRecDepth 100000 in
set_option maxHeartbeats 8000000 in
theorem nan_any (n : Nat) : ACalls Tryz.prog 177 [cv n] (fun r => r = bv false) := by
 refine acalls_vc 6 _ tabOk mixed Tryz.func177 rfl (by kernel_rfl) rfl rfl rfl rfl fun W0 fp0 z0 => ?_
 (all_goals (conv => whnf))
 all_goals (refine NEnd.dat rfl (?_ : _ = _); try simp only [AV.dat])
 all_goals simp
set_option maxRecDepth 100000 in
set_option maxHeartbeats 8000000 in
theorem cmpC_any (a b : UInt8) : ACalls Tryz.prog 154 [cv a.toNat, cv b.toNat] (fun r => r = iv (cmpB a b)) := by
 refine acalls_vc 20 _ tabOk mixed Tryz.func154 rfl (by kernel_rfl) rfl rfl rfl rfl fun W0 fp0 z0 => ?_
 (repeat' ((conv => whnf); first | refine NBr.no ?_ | refine NCall.eq (nan_any a.toNat) (by rfl) ?_ | refine NCall.eq (nan_any b.toNat) (by rfl) ?_ | (refine NBr.dec (fun hc hcP => ?_) (fun hc hcP => ?_) <;> try (exfalso; omega)))); (all_goals (conv => whnf))
 all_goals (refine NEnd.dat rfl (?_ : _ = _); try simp only [AV.dat])
 all_goals
  simp only [decide_eq_true_eq, decide_eq_false_iff_not] at *
  unfold cmpB
  first | (rw [if_pos (by omega)]) | (rw [if_neg (by omega), if_pos (by omega)]) | (rw [if_neg (by omega), if_neg (by omega)])
set_option maxRecDepth 100000 in
set_option maxHeartbeats 8000000 in
theorem cmp1_any (a b : UInt8) : ACalls Tryz.prog 153 [cv a.toNat, cv b.toNat] (fun r => r = iv (cmpB a b)) := by
 refine acalls_vc 8 _ tabOk mixed Tryz.func153 rfl (by kernel_rfl) rfl rfl rfl rfl fun W0 fp0 z0 => ?_
 (repeat' ((conv => whnf); refine NCall.eq (cmpC_any a b) (by rfl) ?_)); (all_goals (conv => whnf))
 all_goals (refine NEnd.dat rfl (?_ : _ = _); try simp only [AV.dat])
 all_goals rfl
set_option maxRecDepth 100000 in
set_option maxHeartbeats 8000000 in
theorem cmpF_any (a b : List UInt8) (ha : a.length ≤ 1000000000) (hb : b.length ≤ 1000000000) : ACalls Tryz.prog 152 [.d (bytesD false a), .d (bytesD false b), .d (.fn 153 [])] (fun r => r = iv (cmpL a b)) := by
 refine acalls_vc 39 _ tabOk mixed Tryz.func152 rfl (by kernel_rfl) rfl rfl rfl rfl fun W0 fp0 z0 => ?_
 (all_goals (conv => whnf))
 refine NLoop.go (fun i : Nat => i ≤ a.length ∧ i ≤ b.length ∧ cmpL a b = cmpL (a.drop i) (b.drop i)) (fun i => a.length - i) (fun i => ⟨[(0, .d (bytesD false a)), (1, .d (bytesD false b)), (2, .d (.fn 153 [])), (6, iv 0), (11, .d (bytesD false a)), (12, iv a.length), (13, iv i)], [], []⟩) 0 ⟨by omega, by omega, rfl⟩ (by ((repeat' (first | exact trivial | exact leW_refl _ | refine And.intro ?_ ?_)))) ?_
 ·rintro i ⟨hi1, hi2, he⟩
  by_cases hia : i < a.length
  ·obtain ⟨x, hx⟩ : ∃ x, a[i]? = some x := ⟨_, List.getElem?_eq_getElem hia⟩
   by_cases hib : i < b.length
   ·obtain ⟨y, hy⟩ : ∃ y, b[i]? = some y := ⟨_, List.getElem?_eq_getElem hib⟩
    rw [cmpL_drop hx hy] at he
    by_cases h1 : x.toNat < y.toNat
    ·have hc : cmpB x y = -1 := if_pos h1
     have hC := cmp1_any x y
     rw [hc] at hC
     (repeat' ((conv => whnf); first | refine NBr.yes ?_ | refine NIdx.bytes hx ?_ | refine NIdx.bytes hy ?_ | refine NCall.eq (hC) (by rfl) ?_ | (refine NBr.dec (fun hc hcP => ?_) (fun hc hcP => ?_) <;> try (exfalso; omega)))); (all_goals (conv => whnf))
     all_goals (refine NEnd.dat rfl (?_ : _ = _); try simp only [AV.dat])
     all_goals (rw [he, if_pos h1])
    by_cases h2 : y.toNat < x.toNat
    ·have hc : cmpB x y = 1 := by unfold cmpB; rw [if_neg h1, if_pos h2]
     have hC := cmp1_any x y
     rw [hc] at hC
     (repeat' ((conv => whnf); first | refine NBr.yes ?_ | refine NIdx.bytes hx ?_ | refine NIdx.bytes hy ?_ | refine NCall.eq (hC) (by rfl) ?_ | (refine NBr.dec (fun hc hcP => ?_) (fun hc hcP => ?_) <;> try (exfalso; omega)))); (all_goals (conv => whnf))
     all_goals (refine NEnd.dat rfl (?_ : _ = _); try simp only [AV.dat])
     all_goals (rw [he, if_neg h1, if_pos h2])
    ·have hc : cmpB x y = 0 := by unfold cmpB; rw [if_neg h1, if_neg h2]
     have hC := cmp1_any x y
     rw [hc] at hC
     rw [if_neg h1, if_neg h2] at he
     (repeat' ((conv => whnf); first | refine NBr.no ?_ | refine NIdx.bytes hx ?_ | refine NIdx.bytes hy ?_ | refine NCall.eq (hC) (by rfl) ?_ | (with_reducible refine NInt.i64 ?_) | (refine NBr.dec (fun hc hcP => ?_) (fun hc hcP => ?_) <;> try (exfalso; omega)))); (all_goals (conv => whnf))
     refine ⟨i + 1, ⟨by omega, by omega, he⟩, by omega, ?_⟩
     ((repeat' (first | exact trivial | exact leW_refl _ | refine And.intro ?_ ?_)))
   ·obtain rfl : i = b.length := by omega
    (repeat' ((conv => whnf); first | refine NIdx.bytes hx ?_ | (refine NBr.dec (fun hc hcP => ?_) (fun hc hcP => ?_) <;> try (exfalso; omega)))); (all_goals (conv => whnf))
    all_goals (refine NEnd.dat rfl (?_ : _ = _); try simp only [AV.dat])
    all_goals
     rw [he, List.drop_length, List.drop_eq_getElem_cons hia, cmpL]
  ·obtain rfl : i = a.length := by omega
   (repeat' ((conv => whnf); (refine NBr.dec (fun hc hcP => ?_) (fun hc hcP => ?_) <;> try (exfalso; omega)))); (all_goals (conv => whnf))
   all_goals (refine NEnd.dat rfl (?_ : _ = _); try simp only [AV.dat])
   all_goals
    rw [he, List.drop_length]
    simp only [decide_eq_true_eq, decide_eq_false_iff_not] at *
   ·rw [List.drop_eq_getElem_cons (by omega), cmpL]
   ·obtain hl : b.length ≤ a.length := by omega
    rw [List.drop_of_length_le hl, cmpL]
set_option maxRecDepth 100000 in
set_option maxHeartbeats 8000000 in
theorem cmp_any (a b : List UInt8) (ha : a.length ≤ 1000000000) (hb : b.length ≤ 1000000000) : ACalls Tryz.prog 129 [.d (bytesD false a), .d (bytesD false b)] (fun r => r = iv (cmpL a b)) := by
 refine acalls_vc 8 _ tabOk mixed Tryz.func129 rfl (by kernel_rfl) rfl rfl rfl rfl fun W0 fp0 z0 => ?_
 (repeat' ((conv => whnf); refine NCall.eq (cmpF_any a b ha hb) (by first | rfl | (simp only [AV.gives, AV.give, D.un, D.uns, un_bytesD]; first | done | rfl)) ?_)); (all_goals (conv => whnf))
 all_goals (refine NEnd.dat rfl (?_ : _ = _); try simp only [AV.dat])
 all_goals rfl
end Go.Proofs.YtblabcopgeobgaaGreatDoor

namespace Go.Proofs.YtblabcopgeobgaaGreatDoor
open Go.RowKit
def minN (n : Nat) : List UInt8 := if n < 256 then [UInt8.ofNat n] else minN (n / 256) ++ [UInt8.ofNat (n % 256)]
termination_by n
decreasing_by omega
theorem minN_small {n : Nat} (h : n < 256) : minN n = [UInt8.ofNat n] := by rw [minN, if_pos h]
theorem minN_more {n : Nat} (h : ¬ n < 256) : minN n = minN (n / 256) ++ [UInt8.ofNat (n % 256)] := by rw [minN, if_neg h]
theorem minN_len : ∀ (k n : Nat), n < 256 ^ (k + 1) → 1 ≤ (minN n).length ∧ (minN n).length ≤ k + 1
 | 0, n, h => by rw [minN_small (by omega)]; simp
 | k + 1, n, h => by
   by_cases h1 : n < 256
   ·rw [minN_small h1]; simp
   ·rw [minN_more h1]
    have := minN_len k (n / 256) (by rw [Nat.pow_succ] at h; omega)
    simp; omega
set_option maxRecDepth 100000 in
set_option maxHeartbeats 8000000 in
theorem rMin_any (n : Nat) (hn : n ≤ 18446744073709551615) : ACalls Tryz.prog 94 [.d (.v (.int .u64 (n : Int)))] (fun r => r = ownB 0 5 (minN n)) := by
 induction n using Nat.strongRecOn with
 | ind n ih =>
   by_cases h : n < 256
   ·rw [minN_small h]
    refine acalls_vc 16 _ tabOk mixed Tryz.func94 rfl (by kernel_rfl) rfl rfl rfl rfl fun W0 fp0 z0 => ?_
    (repeat' ((conv => whnf); first | (with_reducible refine NInt.oct ?_) | (refine NBr.dec (fun hc hcP => ?_) (fun hc hcP => ?_) <;> try (exfalso; omega)))); (all_goals (conv => whnf))
    all_goals (refine NEnd.eq ?_; (repeat' (first | refine And.intro ?_ ?_ | exact rfl)))
   ·rw [minN_more h]
    have hM := ih (n / 256) (by omega) (by omega)
    have hl := (minN_len 7 (n / 256) (by omega)).2
    refine acalls_vc 16 _ tabOk mixed Tryz.func94 rfl (by kernel_rfl) rfl rfl rfl rfl fun W0 fp0 z0 => ?_
    (repeat' ((conv => whnf); first | refine NCall.eq (hM) (by rfl) ?_ | (with_reducible refine NInt.oct ?_) | refine NApp.byte (_) ?_ | (with_reducible refine NInt.quoL ?_) | (with_reducible refine NInt.remL ?_) | refine NFact.go (by first | decide | omega | (simp only [List.length_cons, List.length_nil]; omega)) ?_ | (refine NBr.dec (fun hc hcP => ?_) (fun hc hcP => ?_) <;> try (exfalso; omega)))); (all_goals (conv => whnf))
    all_goals (refine NEnd.eq ?_; (repeat' (first | refine And.intro ?_ ?_ | exact rfl)))
set_option maxRecDepth 100000 in
set_option maxHeartbeats 8000000 in
theorem rCmp_any (a b : List UInt8) (ha : a.length ≤ 1000000000) (hb : b.length ≤ 1000000000) : ACalls Tryz.prog 82 [.d (bytesD false a), .d (bytesD false b)] (fun r => r = iv (cmpL a b)) := by
 refine acalls_vc 46 _ tabOk mixed Tryz.func82 rfl (by kernel_rfl) rfl rfl rfl rfl fun W0 fp0 z0 => ?_
 (all_goals (conv => whnf))
 refine NLoop.go (fun i : Nat => i ≤ a.length ∧ i ≤ b.length ∧ cmpL a b = cmpL (a.drop i) (b.drop i)) (fun i => a.length - i) (fun i => ⟨[(0, .d (bytesD false a)), (1, .d (bytesD false b)), (4, iv 0), (5, iv i)], [], []⟩) 0 ⟨by omega, by omega, rfl⟩ (by ((repeat' (first | exact trivial | exact leW_refl _ | refine And.intro ?_ ?_)))) ?_
 ·rintro i ⟨hi1, hi2, he⟩
  by_cases hia : i < a.length
  ·obtain ⟨x, hx⟩ : ∃ x, a[i]? = some x := ⟨_, List.getElem?_eq_getElem hia⟩
   by_cases hib : i < b.length
   ·obtain ⟨y, hy⟩ : ∃ y, b[i]? = some y := ⟨_, List.getElem?_eq_getElem hib⟩
    rw [cmpL_drop hx hy] at he
    by_cases h1 : x.toNat < y.toNat
    ·(repeat' ((conv => whnf); first | refine NBr.yes ?_ | refine NIdx.bytes hx ?_ | refine NIdx.bytes hy ?_ | refine NFact.go ⟨by decide +kernel, by kernel_rfl⟩ ?_ | (refine NBr.dec (fun hc hcP => ?_) (fun hc hcP => ?_) <;> try (exfalso; omega)))); (all_goals (conv => whnf))
     all_goals (refine NEnd.dat rfl (?_ : _ = _); try simp only [AV.dat])
     all_goals (rw [he, if_pos h1])
    by_cases h2 : y.toNat < x.toNat
    ·(repeat' ((conv => whnf); first | refine NBr.yes ?_ | refine NIdx.bytes hx ?_ | refine NIdx.bytes hy ?_ | refine NFact.go ⟨by decide +kernel, by kernel_rfl⟩ ?_ | (refine NBr.dec (fun hc hcP => ?_) (fun hc hcP => ?_) <;> try (exfalso; omega)))); (all_goals (conv => whnf))
     all_goals (refine NEnd.dat rfl (?_ : _ = _); try simp only [AV.dat])
     all_goals (rw [he, if_neg h1, if_pos h2])
    ·rw [if_neg h1, if_neg h2] at he
     (repeat' ((conv => whnf); first | refine NBr.yes ?_ | refine NIdx.bytes hx ?_ | refine NIdx.bytes hy ?_ | (with_reducible refine NInt.i64 ?_) | refine NFact.go ⟨by decide +kernel, by kernel_rfl⟩ ?_ | (refine NBr.dec (fun hc hcP => ?_) (fun hc hcP => ?_) <;> try (exfalso; omega)))); (all_goals (conv => whnf))
     refine ⟨i + 1, ⟨by omega, by omega, he⟩, by omega, ?_⟩
     ((repeat' (first | exact trivial | exact leW_refl _ | refine And.intro ?_ ?_)))
   ·obtain rfl : i = b.length := by omega
    (repeat' ((conv => whnf); first | refine NBr.yes ?_ | refine NBr.pos (by assumption) ?_ | (refine NBr.dec (fun hc hcP => ?_) (fun hc hcP => ?_) <;> try (exfalso; omega)))); (all_goals (conv => whnf))
    all_goals (refine NEnd.dat rfl (?_ : _ = _); try simp only [AV.dat])
    all_goals
     rw [he, List.drop_length, List.drop_eq_getElem_cons hia, cmpL]
  ·obtain rfl : i = a.length := by omega
   (repeat' ((conv => whnf); first | refine NBr.no ?_ | (refine NBr.dec (fun hc hcP => ?_) (fun hc hcP => ?_) <;> try (exfalso; omega)))); (all_goals (conv => whnf))
   all_goals (refine NEnd.dat rfl (?_ : _ = _); try simp only [AV.dat])
   all_goals
    rw [he, List.drop_length]
    simp only [decide_eq_true_eq, decide_eq_false_iff_not] at *
   ·rw [List.drop_eq_getElem_cons (by omega), cmpL]
   ·obtain hl : b.length ≤ a.length := by omega
    rw [List.drop_of_length_le hl, cmpL]
end Go.Proofs.YtblabcopgeobgaaGreatDoor

namespace Go.Proofs.YtblabcopgeobgaaGreatDoor
open Go.RowKit
theorem beV_zero (r : List UInt8) : beV ((0 : UInt8) :: r) = beV r := by simp [beV]
set_option maxRecDepth 100000 in
set_option maxHeartbeats 8000000 in
theorem rUint_any (l : List UInt8) (hl : l.length ≤ 8) : ACalls Tryz.prog 195 [.d (bytesD false l)] (fun r => r = .tup [.d (.v (.int .u64 (beV l : Nat))), bv true]) := by
 refine acalls_vc 35 _ tabOk mixed Tryz.func195 rfl (by kernel_rfl) rfl rfl rfl rfl fun W0 fp0 z0 => ?_
 (all_goals (conv => whnf))
 refine NLoop.go (fun rest : List UInt8 => beV rest = beV l ∧ rest.length ≤ l.length) (fun rest => rest.length) (fun rest => ⟨[(0, .d (bytesD false rest)), (2, .d (.v (.int .u64 0))), (3, bv false)], [], []⟩) l ⟨rfl, by omega⟩ (by ((repeat' (first | exact trivial | exact leW_refl _ | refine And.intro ?_ ?_)))) ?_
 ·rintro rest ⟨he, hle⟩
  by_cases hz : ∃ r, rest = 0 :: r
  ·obtain ⟨r, rfl⟩ := hz
   have h0 : ((0 : UInt8) :: r)[0]? = some 0 := rfl
   simp only [List.length_cons] at hle
   (repeat' ((conv => whnf); first | refine NBr.yes ?_ | refine NIdx.bytes h0 ?_ | refine NSl.from (1) ?_ | (refine NBr.mk (fun hc => ?_) (fun hc => ?_) <;> (have hcP := hc; (try simp only [List.length_cons, decide_eq_true_eq, decide_eq_false_iff_not] at hcP) <;> first | (exfalso; omega) | skip)))); (all_goals (conv => whnf))
   refine ⟨r, ⟨(beV_zero r).symm.trans he, by omega⟩, by simp, ?_⟩
   ((repeat' (first | exact trivial | exact leW_refl _ | refine And.intro ?_ ?_)))
  ·rcases rest with _ | ⟨x, r⟩
   ·(repeat' ((conv => whnf); refine NBr.no ?_)); (all_goals (conv => whnf))
    refine NLoop.go (fun _ : Unit => True) (fun _ => 0) (fun _ => ⟨[(0, .d (bytesD false [])), (2, .d (.v (.int .u64 0))), (3, bv false), (4, .d (.v (.int .u64 0))), (5, iv 0)], [], []⟩) () trivial (by ((repeat' (first | exact trivial | exact leW_refl _ | refine And.intro ?_ ?_)))) ?_
    ·rintro _ _
     (repeat' ((conv => whnf); refine NBr.no ?_)); (all_goals (conv => whnf))
     all_goals (rw [← he]; (refine NEnd.eq ?_; (repeat' (first | exact leW_refl _ | refine And.intro ?_ ?_ | exact rfl))))
   ·have h0 : (x :: r)[0]? = some x := rfl
    have hx0 : x.toNat ≠ 0 := fun h => hz ⟨r, by rw [show x = 0 from UInt8.toNat_inj.1 h]⟩
    simp only [List.length_cons] at hle
    (repeat' ((conv => whnf); first | refine NBr.yes ?_ | refine NIdx.bytes h0 ?_ | (refine NBr.mk (fun hc => ?_) (fun hc => ?_) <;> (have hcP := hc; (try simp only [List.length_cons, decide_eq_true_eq, decide_eq_false_iff_not, beq_iff_eq, beq_eq_false_iff_ne, ne_eq] at hcP) <;> first | (exfalso; omega) | skip)))); (all_goals (conv => whnf))
    refine NLoop.go (fun i : Nat => i ≤ r.length + 1) (fun i => r.length + 1 - i) (fun i => ⟨[(0, .d (bytesD false (x :: r))), (2, .d (.v (.int .u64 0))), (3, bv false), (4, .d (.v (.int .u64 (beV ((x :: r).take i) : Nat)))), (5, iv i)], [], []⟩) 0 (by omega) (by ((repeat' (first | exact trivial | exact leW_refl _ | refine And.intro ?_ ?_)))) ?_
    ·intro i hi
     by_cases hik : i < r.length + 1
     ·have hik' : i < (x :: r).length := by rw [List.length_cons]; exact hik
      obtain ⟨b, hb⟩ : ∃ b, (x :: r)[i]? = some b := ⟨_, List.getElem?_eq_getElem hik'⟩
      have hsn : beV ((x :: r).take (i + 1)) = beV ((x :: r).take i) * 256 + b.toNat := by
       have hg := List.getElem?_eq_getElem hik'
       rw [hb] at hg
       rw [List.take_succ_eq_append_getElem hik', beV_snoc]
       cases hg; rfl
      have hbt := b.toNat_lt
      have hB : beV ((x :: r).take i) < 256 ^ 7 := by
       refine Nat.lt_of_lt_of_le (beV_lt _) (Nat.pow_le_pow_right (by omega) ?_)
       rw [List.length_take]; omega
      (repeat' ((conv => whnf); first | refine NIdx.bytes hb ?_ | (with_reducible refine NInt.i64 ?_) | (with_reducible refine NInt.u64 ?_) | (refine NBr.mk (fun hc => ?_) (fun hc => ?_) <;> (have hcP := hc; (try simp only [List.length_cons, decide_eq_true_eq, decide_eq_false_iff_not] at hcP) <;> first | (exfalso; omega) | skip)))); (all_goals (conv => whnf))
      refine ⟨i + 1, by omega, by omega, ?_⟩
      rw [hsn]
      ((repeat' (first | exact trivial | exact leW_refl _ | refine And.intro ?_ ?_)))
     ·obtain rfl : i = r.length + 1 := by omega
      have ht : (x :: r).take (r.length + 1) = x :: r := List.take_length (l := x :: r)
      rw [ht, he]
      (repeat' ((conv => whnf); (refine NBr.mk (fun hc => ?_) (fun hc => ?_) <;> (have hcP := hc; (try simp only [List.length_cons, decide_eq_true_eq, decide_eq_false_iff_not] at hcP) <;> first | (exfalso; omega) | skip)))); (all_goals (conv => whnf))
      all_goals (refine NEnd.eq ?_; (repeat' (first | exact leW_refl _ | refine And.intro ?_ ?_ | exact rfl)))
      all_goals rfl
end Go.Proofs.YtblabcopgeobgaaGreatDoor

namespace Go.Proofs.YtblabcopgeobgaaGreatDoor
open Go.RowKit
def lenS (n : Nat) : List UInt8 := if n < 128 then minN n else UInt8.ofNat (128 + (minN n).length) :: minN n
set_option maxRecDepth 100000 in
set_option maxHeartbeats 8000000 in
theorem rLen_any (n : Nat) (hn : n ≤ 2147483647) : ACalls Tryz.prog 68 [iv n] (fun r => r = .tup [ownB 0 5 (lenS n), iv 0]) := by
 have hM := rMin_any n (by omega)
 have hL := minN_len 3 n (by omega)
 by_cases h : n < 128
 ·rw [lenS, if_pos h]
  refine acalls_vc 24 _ tabOk mixed Tryz.func68 rfl (by kernel_rfl) rfl rfl rfl rfl fun W0 fp0 z0 => ?_
  (repeat' ((conv => whnf); first | refine NBr.no ?_ | refine NCall.eq (hM) (by rfl) ?_ | (with_reducible refine NInt.u64 ?_) | (refine NBr.mk (fun hc => ?_) (fun hc => ?_) <;> (have hcP := hc; (try simp only [decide_eq_true_eq, decide_eq_false_iff_not] at hcP) <;> first | (exfalso; omega) | skip)))); (all_goals (conv => whnf))
  all_goals (refine NEnd.eq ?_; (repeat' (first | exact trivial | exact leW_refl _ | refine And.intro ?_ ?_ | exact rfl)))
  all_goals rfl
 ·rw [lenS, if_neg h]
  refine acalls_vc 24 _ tabOk mixed Tryz.func68 rfl (by kernel_rfl) rfl rfl rfl rfl fun W0 fp0 z0 => ?_
  (repeat' ((conv => whnf); first | refine NBr.no ?_ | refine NCall.eq (hM) (by rfl) ?_ | (with_reducible refine NInt.octZ (128 + (minN n).length) ?_) | refine NApp.lit ([UInt8.ofNat (128 + (minN n).length)]) ?_ | (with_reducible refine NInt.i64 ?_) | (with_reducible refine NInt.u64 ?_) | (refine NBr.mk (fun hc => ?_) (fun hc => ?_) <;> (have hcP := hc; (try simp only [decide_eq_true_eq, decide_eq_false_iff_not] at hcP) <;> first | (exfalso; omega) | skip)))); (all_goals (conv => whnf))
  all_goals (refine NEnd.eq ?_; (repeat' (first | exact trivial | exact leW_refl _ | refine And.intro ?_ ?_ | exact rfl)))
  all_goals rfl
theorem ofNat_self (x : UInt8) : UInt8.ofNat x.toNat = x := UInt8.toNat_inj.1 (by rw [UInt8.toNat_ofNat']; have := x.toNat_lt; omega)
theorem minN_beV (x : UInt8) (hx : x.toNat ≠ 0) : ∀ (k : Nat) (r : List UInt8), r.length = k → minN (beV (x :: r)) = x :: r ∧ 1 ≤ beV (x :: r) := by
 intro k
 induction k with
 | zero =>
   intro r hr
   rw [List.length_eq_zero_iff] at hr
   subst hr
   have := x.toNat_lt
   have hb : beV [x] = x.toNat := by simp [beV]
   rw [hb, minN_small (by omega), ofNat_self]
   exact ⟨rfl, by omega⟩
 | succ k ih =>
   intro r hr
   obtain ⟨s, b, rfl⟩ : ∃ s b, r = s ++ [b] := ⟨r.dropLast, r.getLast (by intro h; simp [h] at hr), (List.dropLast_concat_getLast _).symm⟩
   have hs : s.length = k := by simp at hr; omega
   obtain ⟨h1, h2⟩ := ih s hs
   have hb := b.toNat_lt
   have he : beV (x :: (s ++ [b])) = beV (x :: s) * 256 + b.toNat := by rw [← List.cons_append, beV_snoc]
   rw [he, minN_more (by omega), show (beV (x :: s) * 256 + b.toNat) / 256 = beV (x :: s) by omega, show (beV (x :: s) * 256 + b.toNat) % 256 = b.toNat by omega, h1, ofNat_self]
   exact ⟨by simp, by omega⟩
theorem minN_head : ∀ (k n : Nat), n < 256 ^ (k + 1) → 1 ≤ n → ∃ y s, minN n = y :: s ∧ y.toNat ≠ 0
 | 0, n, h, h1 => ⟨_, _, minN_small (by omega), by rw [UInt8.toNat_ofNat']; omega⟩
 | k + 1, n, h, h1 => by
   by_cases h2 : n < 256
   ·exact ⟨_, _, minN_small h2, by rw [UInt8.toNat_ofNat']; omega⟩
   ·obtain ⟨y, s, e1, e2⟩ := minN_head k (n / 256) (by rw [Nat.pow_succ] at h; omega) (by omega)
    exact ⟨y, s ++ [UInt8.ofNat (n % 256)], by rw [minN_more h2, e1]; rfl, e2⟩
theorem cmpL_eq : ∀ {a b : List UInt8}, cmpL a b = 0 ↔ a = b
 | [], [] => by simp [cmpL]
 | [], _ :: _ => by simp [cmpL]
 | _ :: _, [] => by simp [cmpL]
 | x :: r, y :: s => by
   rw [cmpL]
   by_cases h1 : x.toNat < y.toNat
   ·rw [if_pos h1]
    refine ⟨fun h => by omega, fun h => ?_⟩
    rw [List.cons.injEq] at h
    rw [h.1] at h1; omega
   rw [if_neg h1]
   by_cases h2 : y.toNat < x.toNat
   ·rw [if_pos h2]
    refine ⟨fun h => by omega, fun h => ?_⟩
    rw [List.cons.injEq] at h
    rw [h.1] at h2; omega
   rw [if_neg h2, cmpL_eq, List.cons.injEq]
   exact ⟨fun h => ⟨UInt8.toNat_inj.1 (by omega), h⟩, fun h => h.2⟩
theorem lenS_iff {x y : UInt8} {s : List UInt8} {k : Nat} (hk : x.toNat = k + 128) (hs : s.length + 1 = k) (h4 : k ≤ 4) (hn : beV (y :: s) ≤ 2147483647) : cmpL (lenS (beV (y :: s))) (x :: y :: s) = 0 ↔ y.toNat ≠ 0 ∧ 128 ≤ beV (y :: s) := by
 rw [cmpL_eq]
 constructor
 ·intro h
  by_cases h1 : beV (y :: s) < 128
  ·rw [lenS, if_pos h1, minN_small (by omega)] at h
   simp at h
  ·rw [lenS, if_neg h1, List.cons.injEq] at h
   obtain ⟨y', s', e1, e2⟩ := minN_head 3 (beV (y :: s)) (by omega) (by omega)
   rw [e1, List.cons.injEq] at h
   exact ⟨by rw [← h.2.1]; exact e2, by omega⟩
 ·rintro ⟨h1, h2⟩
  have h3 := (minN_beV y h1 _ s rfl).1
  rw [lenS, if_neg (by omega), h3, List.cons.injEq]
  refine ⟨UInt8.toNat_inj.1 ?_, rfl⟩
  rw [UInt8.toNat_ofNat', hk, List.length_cons, hs]; omega
theorem lenS_len (n : Nat) (h : n ≤ 2147483647) : 1 ≤ (lenS n).length ∧ (lenS n).length ≤ 5 := by
 have := minN_len 3 n (by omega)
 unfold lenS
 split
 ·omega
 ·simp only [List.length_cons]; omega
set_option maxRecDepth 100000 in
set_option maxHeartbeats 8000000 in
theorem rReadLen_any (l : List UInt8) (hl : l.length ≤ 1000000000) : ACalls Tryz.prog 162 [.d (bytesD false l)] (fun r => r = rlA (rlS l)) := by
 cases l with
 | nil =>
   refine acalls_vc 73 _ tabOk mixed Tryz.func162 rfl (by kernel_rfl) rfl rfl rfl rfl fun W0 fp0 z0 => ?_
   (repeat' ((conv => whnf); refine NBr.yes ?_)); (all_goals (conv => whnf))
   all_goals (refine NEnd.eq ?_; (repeat' (first | exact leW_refl _ | refine And.intro ?_ ?_ | exact rfl)))
   all_goals rfl
 | cons x r =>
   have hx := x.toNat_lt
   have h0 : (x :: r)[0]? = some x := rfl
   simp only [List.length_cons] at hl
   by_cases h1 : x.toNat < 128
   ·rw [rlS_small h1]
    refine acalls_vc 73 _ tabOk mixed Tryz.func162 rfl (by kernel_rfl) rfl rfl rfl rfl fun W0 fp0 z0 => ?_
    (repeat' ((conv => whnf); first | refine NBr.no ?_ | refine NIdx.bytes h0 ?_ | (with_reducible refine NInt.i64 ?_) | (refine NBr.mk (fun hc => ?_) (fun hc => ?_) <;> (have hcP := hc; (try simp only [decide_eq_true_eq, decide_eq_false_iff_not] at hcP) <;> first | (exfalso; omega) | skip)))); (all_goals (conv => whnf))
    all_goals (refine NEnd.eq ?_; (repeat' (first | exact leW_refl _ | refine And.intro ?_ ?_ | exact rfl)))
    all_goals rfl
   by_cases h2 : x.toNat = 128 ∨ x.toNat > 132
   ·rw [rlS_form (by omega) h2]
    refine acalls_vc 73 _ tabOk mixed Tryz.func162 rfl (by kernel_rfl) rfl rfl rfl rfl fun W0 fp0 z0 => ?_
    (repeat' ((conv => whnf); first | refine NBr.yes ?_ | refine NBr.no ?_ | refine NIdx.bytes h0 ?_ | (with_reducible refine NInt.i64 ?_) | (refine NBr.mk (fun hc => ?_) (fun hc => ?_) <;> (have hcP := hc; (try simp only [decide_eq_true_eq, decide_eq_false_iff_not, beq_iff_eq, beq_eq_false_iff_ne, ne_eq] at hcP) <;> first | (exfalso; omega) | skip)))); (all_goals (conv => whnf))
    all_goals (refine NEnd.eq ?_; (repeat' (first | exact leW_refl _ | refine And.intro ?_ ?_ | exact rfl)))
    all_goals rfl
   obtain ⟨k, hk⟩ : ∃ k : Nat, x.toNat = k + 128 := ⟨x.toNat - 128, by omega⟩
   by_cases h3 : r.length < k
   ·rw [rlS_short (by omega) (by omega) (by omega)]
    refine acalls_vc 73 _ tabOk mixed Tryz.func162 rfl (by kernel_rfl) rfl rfl rfl rfl fun W0 fp0 z0 => ?_
    (repeat' ((conv => whnf); first | refine NBr.no ?_ | refine NIdx.bytes h0 ?_ | (with_reducible refine NInt.i64 ?_) | (refine NBr.mk (fun hc => ?_) (fun hc => ?_) <;> (have hcP := hc; (try simp only [List.length_cons, decide_eq_true_eq, decide_eq_false_iff_not, beq_iff_eq, beq_eq_false_iff_ne, ne_eq] at hcP) <;> first | (exfalso; omega) | skip)))); (all_goals (conv => whnf))
    all_goals (refine NEnd.eq ?_; (repeat' (first | exact leW_refl _ | refine And.intro ?_ ?_ | exact rfl)))
    all_goals rfl
   ·cases r with
    | nil => simp only [List.length_nil] at *; omega
    | cons y s =>
      simp only [List.length_cons] at hl h3
      obtain ⟨j, rfl⟩ : ∃ j, k = j + 1 := ⟨k - 1, by omega⟩
      have hT : (y :: s).take (j + 1) = y :: s.take j := rfl
      have hlj : (s.take j).length = j := by rw [List.length_take]; omega
      have hU := rUint_any (y :: s.take j) (by rw [List.length_cons, hlj]; omega)
      have hbv := beV_lt (y :: s.take j)
      rw [List.length_cons, hlj] at hbv
      have hb32 : beV (y :: s.take j) < 4294967296 := Nat.lt_of_lt_of_le hbv (Nat.le_trans (Nat.pow_le_pow_right (by omega) (show j + 1 ≤ 4 by omega)) (by decide))
      by_cases h5 : beV (y :: s.take j) > 2147483647
      ·rw [rlS_bad hk (by omega) (by omega) (by omega) (Or.inr (Or.inr h5))]
       refine acalls_vc 73 _ tabOk mixed Tryz.func162 rfl (by kernel_rfl) rfl rfl rfl rfl fun W0 fp0 z0 => ?_
       (repeat' ((conv => whnf); first | refine NBr.no ?_ | refine NIdx.bytes h0 ?_ | refine NCall.eq (hU) (by first | rfl | (simp only [AV.gives, AV.give, D.un, uns_bytesL]; first | done | rfl)) ?_ | refine NSl.slice (1) (j + 2) ?_ | (with_reducible refine NInt.i64 ?_) | (refine NBr.mk (fun hc => ?_) (fun hc => ?_) <;> (have hcP := hc; (try simp only [List.length_cons, decide_eq_true_eq, decide_eq_false_iff_not, beq_iff_eq, beq_eq_false_iff_ne, ne_eq] at hcP) <;> first | (exfalso; omega) | skip)))); (all_goals (conv => whnf))
       all_goals (refine NEnd.eq ?_; (repeat' (first | exact leW_refl _ | refine And.intro ?_ ?_ | exact rfl)))
       all_goals rfl
      ·have hL := rLen_any (beV (y :: s.take j)) (by omega)
       have hLl := lenS_len (beV (y :: s.take j)) (by omega)
       have hC := rCmp_any (lenS (beV (y :: s.take j))) (x :: y :: s.take j) (by omega) (by simp only [List.length_cons, hlj]; omega)
       have hI := lenS_iff (y := y) (s := s.take j) hk (by rw [hlj]) (by omega) (by omega)
       by_cases h6 : y.toNat ≠ 0 ∧ 128 ≤ beV (y :: s.take j)
       ·rw [rlS_ok hk (by omega) (by omega) (by omega) (by rw [hT]; omega), hT]
        have h7 := hI.2 h6
        rw [h7] at hC
        refine acalls_vc 73 _ tabOk mixed Tryz.func162 rfl (by kernel_rfl) rfl rfl rfl rfl fun W0 fp0 z0 => ?_
        (repeat' ((conv => whnf); first | refine NBr.no ?_ | refine NIdx.bytes h0 ?_ | refine NCall.eq (hU) (by first | rfl | (simp only [AV.gives, AV.give, D.un, uns_bytesL]; first | done | rfl)) ?_ | refine NCall.eq (hL) (by rfl) ?_ | refine NCall.eq (hC) (by first | rfl | (simp only [AV.gives, AV.give, D.un, uns_bytesL]; first | done | rfl)) ?_ | refine NSl.upto (j + 2) ?_ | refine NSl.slice (1) (j + 2) ?_ | (with_reducible refine NInt.i64 ?_) | (refine NBr.mk (fun hc => ?_) (fun hc => ?_) <;> (have hcP := hc; (try simp only [List.length_cons, decide_eq_true_eq, decide_eq_false_iff_not, beq_iff_eq, beq_eq_false_iff_ne, ne_eq] at hcP) <;> first | (exfalso; omega) | skip)))); (all_goals (conv => whnf))
        all_goals (refine NEnd.eq ?_; (repeat' (first | exact trivial | exact leW_refl _ | refine And.intro ?_ ?_ | exact rfl | (dsimp only; omega))))
       ·rw [rlS_bad hk (by omega) (by omega) (by omega) (by rw [hT]; omega)]
        have h7 : ¬ cmpL (lenS (beV (y :: s.take j))) (x :: y :: s.take j) = 0 := fun h => h6 (hI.1 h)
        refine acalls_vc 73 _ tabOk mixed Tryz.func162 rfl (by kernel_rfl) rfl rfl rfl rfl fun W0 fp0 z0 => ?_
        (repeat' ((conv => whnf); first | refine NBr.no ?_ | refine NIdx.bytes h0 ?_ | refine NCall.eq (hU) (by first | rfl | (simp only [AV.gives, AV.give, D.un, uns_bytesL]; first | done | rfl)) ?_ | refine NCall.eq (hL) (by rfl) ?_ | refine NCall.eq (hC) (by first | rfl | (simp only [AV.gives, AV.give, D.un, uns_bytesL]; first | done | rfl)) ?_ | refine NSl.upto (j + 2) ?_ | refine NSl.slice (1) (j + 2) ?_ | (with_reducible refine NInt.i64 ?_) | (refine NBr.mk (fun hc => ?_) (fun hc => ?_) <;> (have hcP := hc; (try simp only [List.length_cons, decide_eq_true_eq, decide_eq_false_iff_not, bne_iff_ne, beq_iff_eq, bne_eq_false_iff_eq, beq_eq_false_iff_ne, ne_eq] at hcP) <;> first | (exfalso; omega) | skip)))); (all_goals (conv => whnf))
        all_goals (refine NEnd.eq ?_; (repeat' (first | exact leW_refl _ | refine And.intro ?_ ?_ | exact rfl)))
        all_goals rfl
end Go.Proofs.YtblabcopgeobgaaGreatDoor

namespace Go.Proofs.YtblabcopgeobgaaGreatDoor
open Go.RowKit
set_option maxRecDepth 100000 in
set_option maxHeartbeats 8000000 in
theorem rReadId_bad {x : UInt8} (h : x.toNat % 32 = 31) : ACalls Tryz.prog 161 [cv x.toNat] (fun r => r = .tup [iv 0, bv false, iv 0, iv 3]) := by
 have hx := x.toNat_lt
 refine acalls_vc 20 _ tabOk mixed Tryz.func161 rfl (by kernel_rfl) rfl rfl rfl rfl fun W0 fp0 z0 => ?_
 (repeat' ((conv => whnf); first | (with_reducible refine NInt.i64 ?_) | (with_reducible refine NInt.remL ?_) | refine NFact.go (by first | decide | omega | (simp only [List.length_cons, List.length_nil]; omega)) ?_ | (refine NBr.dec (fun hc hcP => ?_) (fun hc hcP => ?_) <;> try (exfalso; omega)))); (all_goals (conv => whnf))
 all_goals (refine NEnd.eq ?_; (repeat' (first | exact leW_refl _ | refine And.intro ?_ ?_ | exact rfl)))
 all_goals rfl
set_option maxRecDepth 100000 in
set_option maxHeartbeats 8000000 in
theorem rReadId_ok {x : UInt8} (h : ¬ x.toNat % 32 = 31) : ACalls Tryz.prog 161 [cv x.toNat] (fun r => r = .tup [iv (x.toNat / 64 : Nat), bv (x.toNat / 32 % 2 == 1), iv (x.toNat % 32 : Nat), iv 0]) := by
 have hx := x.toNat_lt
 refine acalls_vc 20 _ tabOk mixed Tryz.func161 rfl (by kernel_rfl) rfl rfl rfl rfl fun W0 fp0 z0 => ?_
 (repeat' ((conv => whnf); first | (with_reducible refine NInt.i64 ?_) | (with_reducible refine NInt.quoL ?_) | (with_reducible refine NInt.remL ?_) | refine NFact.go (by first | decide | omega | (simp only [List.length_cons, List.length_nil]; omega)) ?_ | (refine NBr.dec (fun hc hcP => ?_) (fun hc hcP => ?_) <;> try (exfalso; omega)))); (all_goals (conv => whnf))
 all_goals (refine NEnd.eq ?_; (repeat' (first | exact trivial | exact leW_refl _ | refine And.intro ?_ ?_ | exact rfl)); (all_goals (conv => whnf)))
 all_goals (rw [← beq_cast]; rfl)
set_option maxRecDepth 100000 in
set_option maxHeartbeats 8000000 in
theorem rReadHead_any (l : List UInt8) (hl : l.length ≤ 1000000000) : ACalls Tryz.prog 140 [.d (bytesD false l)] (fun r => r = rhA (rhS l)) := by
 cases l with
 | nil =>
   refine acalls_vc 55 _ tabOk mixed Tryz.func140 rfl (by kernel_rfl) rfl rfl rfl rfl fun W0 fp0 z0 => ?_
   (repeat' ((conv => whnf); refine NBr.yes ?_)); (all_goals (conv => whnf))
   all_goals (refine NEnd.eq ?_; (repeat' (first | exact leW_refl _ | refine And.intro ?_ ?_ | exact rfl)))
   all_goals rfl
 | cons x r =>
   have hx := x.toNat_lt
   have h0 : (x :: r)[0]? = some x := rfl
   simp only [List.length_cons] at hl
   obtain ⟨b1, b2, b3, b4, b5⟩ := rlS_bounds r
   by_cases h31 : x.toNat % 32 = 31
   ·refine acalls_vc 55 _ tabOk mixed Tryz.func140 rfl (by kernel_rfl) rfl rfl rfl rfl fun W0 fp0 z0 => ?_
    (repeat' ((conv => whnf); first | refine NBr.yes ?_ | refine NBr.no ?_ | refine NCall.eq (rReadId_bad h31) (by rfl) ?_ | refine NIdx.bytes h0 ?_)); (all_goals (conv => whnf))
    all_goals (rw [rhS, if_pos h31]; (refine NEnd.eq ?_; (repeat' (first | exact leW_refl _ | refine And.intro ?_ ?_ | exact rfl))))
   ·refine acalls_vc 55 _ tabOk mixed Tryz.func140 rfl (by kernel_rfl) rfl rfl rfl rfl fun W0 fp0 z0 => ?_
    (repeat' ((conv => whnf); first | refine NBr.no ?_ | refine NCall.eq (rReadId_ok h31) (by rfl) ?_ | refine NCall.eq (rReadLen_any r (by omega)) (by first | rfl | (simp only [AV.gives, AV.give, D.un, uns_bytesL]; first | done | rfl)) ?_ | refine NIdx.bytes h0 ?_ | refine NSl.from (1) ?_ | (with_reducible refine NInt.i64 ?_) | refine NFact.go ⟨by decide +kernel, by kernel_rfl⟩ ?_ | (refine NBr.bne (fun hc hcP => ?_) (fun hc hcP => ?_) <;> try (exfalso; omega)))); (all_goals (conv => whnf))
    ·have hz : ¬ (rlS r).2.2.1 = 0 := by omega
     rw [rhS, if_neg h31, if_neg hz]; (refine NEnd.eq ?_; (repeat' (first | exact leW_refl _ | refine And.intro ?_ ?_ | exact rfl)))
    ·have hz : (rlS r).2.2.1 = 0 := by omega
     rw [rhS, if_neg h31, if_pos hz]; (refine NEnd.eq ?_; (repeat' (first | exact trivial | exact leW_refl _ | refine And.intro ?_ ?_ | exact rfl | (dsimp only; omega))))
def rNextA (l : List UInt8) : AV :=
 if (rhS l).code ≠ 0 then .tup [hdA (.bad 0 0), nilA, nilA, erA (rhS l).code (rhS l).off]
 else if l.length < (rhS l).size + (rhS l).len then .tup [hdA (.bad 0 0), nilA, nilA, erA 1 l.length]
 else .tup [hdA (rhS l), .d (bytesD false ((l.drop (rhS l).size).take (rhS l).len)), .d (bytesD false (l.drop ((rhS l).size + (rhS l).len))), erA 0 0]
set_option maxRecDepth 100000 in
set_option maxHeartbeats 8000000 in
theorem rNext_any (l : List UInt8) (hl : l.length ≤ 1000000000) : ACalls Tryz.prog 121 [.d (bytesD false l)] (fun r => r = rNextA l) := by
 have hR := rReadHead_any l hl
 have hB := rhS_bounds l
 unfold rNextA
 generalize hh : rhS l = h at hR hB ⊢
 obtain ⟨c1, c2, c3, c4, c5, c6, c7⟩ := hB
 by_cases k1 : h.code = 0
 ·have c1' := c1 k1
  by_cases k2 : l.length < h.size + h.len
  ·rw [if_neg (by omega), if_pos k2]
   refine acalls_vc 48 _ tabOk mixed Tryz.func121 rfl (by kernel_rfl) rfl rfl rfl rfl fun W0 fp0 z0 => ?_
   (repeat' ((conv => whnf); first | refine NCall.eq (hR) (by first | rfl | (simp only [AV.gives, AV.give, un_bytesD]; first | done | rfl)) ?_ | (with_reducible refine NInt.i64 ?_) | (refine NBr.dec (fun hc hcP => ?_) (fun hc hcP => ?_) <;> try (exfalso; omega)) | (refine NBr.bne (fun hc hcP => ?_) (fun hc hcP => ?_) <;> try (exfalso; omega)))); (all_goals (conv => whnf))
   all_goals (refine NEnd.eq ?_; (repeat' (first | exact leW_refl _ | refine And.intro ?_ ?_ | exact rfl)))
   all_goals rfl
  ·rw [if_neg (by omega), if_neg k2]
   refine acalls_vc 48 _ tabOk mixed Tryz.func121 rfl (by kernel_rfl) rfl rfl rfl rfl fun W0 fp0 z0 => ?_
   (repeat' ((conv => whnf); first | refine NCall.eq (hR) (by first | rfl | (simp only [AV.gives, AV.give, un_bytesD]; first | done | rfl)) ?_ | (refine NSl.bytes h.size (h.size + h.len) ((l.drop h.size).take h.len) (by rw [Nat.add_sub_cancel_left]) ?_) | refine NSl.from (h.size + h.len) ?_ | (with_reducible refine NInt.i64 ?_) | refine NFact.go ⟨by decide +kernel, by kernel_rfl⟩ ?_ | (refine NBr.dec (fun hc hcP => ?_) (fun hc hcP => ?_) <;> try (exfalso; omega)) | (refine NBr.bne (fun hc hcP => ?_) (fun hc hcP => ?_) <;> try (exfalso; omega)))); (all_goals (conv => whnf))
   all_goals (refine NEnd.eq ?_; (repeat' (first | exact leW_refl _ | refine And.intro ?_ ?_ | exact rfl)))
 ·rw [if_pos k1]
  refine acalls_vc 48 _ tabOk mixed Tryz.func121 rfl (by kernel_rfl) rfl rfl rfl rfl fun W0 fp0 z0 => ?_
  (repeat' ((conv => whnf); first | refine NCall.eq (hR) (by first | rfl | (simp only [AV.gives, AV.give, un_bytesD]; first | done | rfl)) ?_ | refine NFact.go ⟨by decide +kernel, by kernel_rfl⟩ ?_ | (refine NBr.bne (fun hc hcP => ?_) (fun hc hcP => ?_) <;> try (exfalso; omega)))); (all_goals (conv => whnf))
  all_goals (refine NEnd.eq ?_; (repeat' (first | exact leW_refl _ | refine And.intro ?_ ?_ | exact rfl)))
  all_goals rfl
def putS (x : UInt8) (c : List UInt8) : List UInt8 := x :: (lenS c.length ++ c)
set_option maxRecDepth 100000 in
set_option maxHeartbeats 8000000 in
theorem rPut_any (x : UInt8) (c : List UInt8) (hl : c.length ≤ 900000000) : ACalls Tryz.prog 43 [cv x.toNat, .d (bytesD false c)] (fun r => r = ownB 0 5 (putS x c)) := by
 have hM := rLen_any c.length (by omega)
 have hL := lenS_len c.length (by omega)
 refine acalls_vc 19 _ tabOk mixed Tryz.func43 rfl (by kernel_rfl) rfl rfl rfl rfl fun W0 fp0 z0 => ?_
 (repeat' ((conv => whnf); first | refine NCall.eq (hM) (by rfl) ?_ | refine NApp.lit ([x]) ?_ | (with_reducible refine NApp.bytes ?_))); (all_goals (conv => whnf))
 all_goals (refine NEnd.eq ?_; (repeat' (first | refine And.intro ?_ ?_ | exact rfl)))
 all_goals rfl
end Go.Proofs.YtblabcopgeobgaaGreatDoor

namespace Go.Proofs.YtblabcopgeobgaaGreatDoor
open Go.RowKit
def encB (b : UInt8) : Value := .int .u8 b.toNat
def Plain (k : Nat) (e : TypeId) (l m : List UInt8) (tm tm' : List (Nat × AV)) : Prop :=
 ∀ t u, lk t tm' = some u → (∃ x, u = .d (.v x) ∧ lk t tm = some u) ∨ (u = ownB k e m ∧ lk t tm = some (ownB k e l))
theorem Plain.nil {k : Nat} {e : TypeId} {l m : List UInt8} {tm : List (Nat × AV)} : Plain k e l m tm [] := fun t u h => by cases h
theorem Plain.v {k s : Nat} {e : TypeId} {l m : List UInt8} {tm r : List (Nat × AV)} {x : Value} (h : lk s tm = some (.d (.v x))) (hr : Plain k e l m tm r) : Plain k e l m tm ((s, .d (.v x)) :: r) := fun t u hu => by
 by_cases e : s = t
 ·subst e; rw [lk_same] at hu; cases hu; exact .inl ⟨x, rfl, h⟩
 ·rw [lk_ne _ _ e] at hu; exact hr t u hu
theorem Plain.own {k s : Nat} {e : TypeId} {l m : List UInt8} {tm r : List (Nat × AV)} (h : lk s tm = some (ownB k e l)) (hr : Plain k e l m tm r) : Plain k e l m tm ((s, ownB k e m) :: r) := fun t u hu => by
 by_cases e : s = t
 ·subst e; rw [lk_same] at hu; cases hu; exact .inr ⟨rfl, h⟩
 ·rw [lk_ne _ _ e] at hu; exact hr t u hu
theorem rd_bytes {B : Nat} {fp : Nat → Nat → Prop} {w : World} {l : List UInt8} {g c : Nat} (h1 : l.length ≤ c) (h2 : c ≤ maxLen) (hB : B ≤ g) (hfp : ∀ i, i < l.length → fp g i) (hc : ∀ i b, l[i]? = some b → w.cell? ⟨g, i, none⟩ = some (encB b)) : Rd B fp w (.sl true l.length 1 (bytesL l)) (.slice (some ⟨g, 0, none⟩) l.length c) := by
 refine .sl (l.map encB) h1 h2 (by rw [bytesL_len]; omega) (by rw [bytesL_len, List.length_map]) (fun h => by cases h) (fun u hu => ?_) (fun i d u hd hu => ?_) (fun i u hu => ?_)
 ·obtain ⟨b, -, rfl⟩ := List.mem_map.1 hu
  rfl
 ·rw [bytesL_get, Option.map_eq_some_iff] at hd
  rw [List.getElem?_map, Option.map_eq_some_iff] at hu
  obtain ⟨b, hb, rfl⟩ := hd
  obtain ⟨b', hb', rfl⟩ := hu
  rw [hb] at hb'; cases hb'
  exact .v _
 ·rw [List.getElem?_map, Option.map_eq_some_iff] at hu
  obtain ⟨b, hb, rfl⟩ := hu
  have hlt := (List.getElem?_eq_some_iff.1 hb).1
  exact ⟨g, 0, rfl, by rw [Nat.zero_add]; exact hfp i hlt, fun _ => hB, by rw [Nat.zero_add]; exact hc i b hb⟩
section
variable {P : Program} {C : Cx} {o : Oper} {σ : AS} {t : Nat}
theorem step_rev {ρ : Go.Shelf.Ren} (L : SlLaysE.n35 P ρ) {e : TypeId} {x : Operand} {ats : Array TypeId} {k : Nat} {l : List UInt8} {tm' : List (Nat × AV)} (hcall : ∀ vs w, (callFunc (ρ.f 35) vs).run P w = .ok (.enter (ρ.f 35) vs) w) (ho : o.op = .call { callee := .value (.func (ρ.f 35)), args := #[x], argTypes := ats }) (hd : o.dst = some t) (ht : t < C.N)
 (hx : σ.eval x = some (ownB k e l)) (hk : lk k σ.tk = some (l.length, 1, e)) (h0 : 0 < l.length) (hl : l.length ≤ 1000000000) (hp : Plain k e l l.reverse σ.tm tm') (htt : lk t tm' = none) :
 AStep P C o σ ⟨tm', [], [(k, l.reverse.length, 1, e)]⟩ := by
 rw [List.length_reverse]
 rintro a w ⟨bm, gt, fp, hg⟩ K Q hK
 have h1 := hg.eval hx
 generalize hv : a.eval x = v at h1
 cases h1 with
 | own h1 =>
   obtain ⟨xs, hxs, hown⟩ := (hg.tk k _ _ _ hk).own
   have hby := h1.bytes
   rcases hown with ⟨hvn, hn⟩ | ⟨g, cap, cur, hvg, hBg, hheap, hnc, hcm, hcs, htk⟩
   ·omega
   have hcell : ∀ i b, l[i]? = some b → w.cell? ⟨g, i, none⟩ = some (encB b) := fun i b hb => by
    obtain ⟨a', c', e1, -, -, -, e2⟩ := hby
    obtain ⟨b', o', e3, -, e4⟩ := e2 i (encB b) (by rw [byteCells_get, hb]; rfl)
    rw [hvg] at e1
    cases e1
    cases e3
    rw [Nat.zero_add] at e4
    exact e4
   have hH : Sort.Holds encB w g 0 l.toArray := fun j hj => by
    have hj' : j < l.length := by simpa using hj
    refine ⟨?_, frozen_of_row w g _ cur e hheap⟩
    rw [Nat.zero_add, hcell j l[j] (List.getElem?_eq_getElem hj')]
    rw [getElem!_pos l.toArray j hj]
    simp
   have hR := AnyE.slices_Reverse L encB (fun _ => rfl) g 0 cap l w hH (by omega)
   have hrun : (execOp a.eval o).run P w = .ok (.enter (ρ.f 35) #[gt k]) w := by
    have hf : ∀ f : FuncId, (Operand.func f : Operand) = .func f := fun _ => rfl
    simp only [execOp, ho, resolve, Deferred.ofValue, Act.eval, invoke, Sem.run_bind, Sem.run_pure, Result.andThen_ok, hcall]
    simp [hv]
   unfold Oper.wp
   rw [hrun, Oper.upon_enter, hvg]
   refine hR.mono ?_
   rintro e' w' ⟨rfl, m, rfl⟩
   simp only []
   rw [hd]
   refine hK _ _ ⟨⟨bm.m, C.z0⟩, gt, fun b o' => (C.fp0 b o' ∨ C.z0 b o') ∨ (b = g ∧ o' < l.length), ?_⟩
   have hgs : g < w.heap.size := (Array.getElem?_eq_some_iff.1 hheap).1
   have hblk : ∀ b, b ≠ g → (Sort.putRow encB (Sort.ahead w m) g 0 l.reverse.toArray).heap[b]? = w.heap[b]? := fun b hb => by
    simp only [Sort.putRow, Sort.mapBlock, Array.getElem?_modify, Sort.heap_ahead]
    rw [if_neg (Ne.symm hb)]
   have hself : (Sort.putRow encB (Sort.ahead w m) g 0 l.reverse.toArray).heap[g]? = some (.cells (Sort.putCells encB 0 l.reverse.toArray cur) e (0, 0)) := by
    simp only [Sort.putRow, Sort.mapBlock, Array.getElem?_modify, Sort.heap_ahead, hheap, if_true]
    rfl
   have hnew : ∀ i b, l.reverse[i]? = some b → (Sort.putRow encB (Sort.ahead w m) g 0 l.reverse.toArray).cell? ⟨g, i, none⟩ = some (encB b) := fun i b hb => by
    have hi : i < l.reverse.length := (List.getElem?_eq_some_iff.1 hb).1
    have := Sort.cell?_putRow encB (Sort.ahead w m) g 0 l.toArray l.reverse.toArray (Sort.holds_ahead encB w m g 0 _ hH) (by simp) i (by simpa using hi)
    rw [Nat.zero_add] at this
    rw [this, getElem!_pos l.reverse.toArray i (by simpa using hi)]
    have h2 := (List.getElem?_eq_some_iff.1 hb).2
    simp at h2 ⊢
    rw [h2]
   have hlen : l.reverse.length = l.length := by simp
   have hRd : Rd C.W.heap.size (fun b o' => (C.fp0 b o' ∨ C.z0 b o') ∨ (b = g ∧ o' < l.length)) (Sort.putRow encB (Sort.ahead w m) g 0 l.reverse.toArray) (.sl true l.reverse.length 1 (bytesL l.reverse)) (gt k) := by
    have := rd_bytes (l := l.reverse) (fp := fun b o' => (C.fp0 b o' ∨ C.z0 b o') ∨ (b = g ∧ o' < l.length)) (by rw [hlen]; exact hnc) hcm hBg (fun i hi => .inr ⟨rfl, by rw [hlen] at hi; exact hi⟩) hnew
    rw [hvg]
    rw [hlen] at this ⊢
    exact this
   refine { sz := by simp [Act.put, hg.sz], nN := hg.nN, gd := hg.gd, za := fun _ _ x => x, zb := fun _ _ x => .inl x, zf := fun _ _ x => .inl (.inr x), ztk := fun k' x hk' g' hg' o' hz => ?_, df := hg.df, tm := fun s u hu => ?_, bx := fun k' cs hk' => (by cases hk'), bxi := fun k1 k2 c1 c2 hk1 => (by cases hk1), tk := fun k' n' sz' e' hk' => ?_, tki := fun k1 k2 x1 x2 hk1 hk2 _ _ => ?_, tkb := fun k1 k2 x1 c1 hk1 hk2 => (by cases hk2), fpb := fun b o' hf => ?_, fp0 := fun b o' hf => .inl (.inl hf), fpB := hg.fpB, bel := ?_ }
   ·by_cases ek : k = k'
    ·subst ek
     exact hg.ztk k _ hk g' hg' o' (hg.za g' o' hz)
    ·rw [lk_ne _ _ ek] at hk'; cases hk'
   ·have hst : s ≠ t := fun h => by subst h; rw [htt] at hu; cases hu
    rcases hp s u hu with ⟨x0, rfl, h2⟩ | ⟨rfl, h2⟩
    ·obtain ⟨v0, h3, h4⟩ := hg.tm s _ h2
     refine ⟨v0, by rw [← h3]; simp only [Cx.val, Act.put]; rw [Array.getElem?_setIfInBounds_ne (Ne.symm hst)], ?_⟩
     rw [h4.val]; exact .d (.v _)
    ·obtain ⟨v0, h3, h4⟩ := hg.tm s _ h2
     refine ⟨v0, by rw [← h3]; simp only [Cx.val, Act.put]; rw [Array.getElem?_setIfInBounds_ne (Ne.symm hst)], ?_⟩
     cases h4 with
     | own h4 => exact .own hRd
   ·by_cases ek : k = k'
    ·subst ek
     rw [lk_same] at hk'
     cases hk'
     refine ⟨⟨(Sort.putCells encB 0 l.reverse.toArray cur).toList.take (l.length * 1), ?_, .inr ⟨g, cap, _, hvg, hBg, hself, hnc, hcm, ?_, rfl⟩⟩, ?_⟩
     ·rw [List.length_take]; simp [Sort.putCells, hcs]; omega
     ·simp [Sort.putCells, hcs]
     ·intro g' hg' o' ho'
      rw [hvg] at hg'
      cases hg'
      rintro ((hf | hf) | ⟨-, hf⟩)
      ·have h9 : g < C.W.heap.size := hg.fpB _ _ hf
       omega
      ·exact hg.ztk k _ hk g (by rw [hvg]; rfl) _ (hg.za _ _ hf)
      ·omega
    ·rw [lk_ne _ _ ek] at hk'; cases hk'
   ·by_cases e1 : k = k1
    ·by_cases e2 : k = k2
     ·exact e1.symm.trans e2
     ·rw [lk_ne _ _ e2] at hk2; cases hk2
    ·rw [lk_ne _ _ e1] at hk1; cases hk1
   ·rcases hf with (hf | hf) | ⟨rfl, hf⟩
    ·exact ⟨.inl hf, by have := hg.fpB _ _ hf; have := hg.bel.size; rw [Sort.size_putRow, Sort.heap_ahead]; omega⟩
    ·have := hg.fpb _ _ (hg.zf _ _ (hg.za _ _ hf))
     exact ⟨this.1, by rw [Sort.size_putRow, Sort.heap_ahead]; exact this.2⟩
    ·exact ⟨.inr hBg, by rw [Sort.size_putRow, Sort.heap_ahead]; exact hgs⟩
   ·refine hg.bel.trans ⟨rfl, rfl, rfl, by rw [Sort.size_putRow, Sort.heap_ahead]; exact Nat.le_refl _, fun b hb => hblk b (by omega)⟩
end
end Go.Proofs.YtblabcopgeobgaaGreatDoor

namespace Go.Proofs.YtblabcopgeobgaaGreatDoor
open Go.RowKit
def minR (n : Nat) : List UInt8 := UInt8.ofNat n :: (if n < 256 then [] else minR (n / 256))
termination_by n
decreasing_by omega
theorem minR_rev : ∀ n, (minR n).reverse = minN n := by
 intro n
 induction n using Nat.strongRecOn with
 | ind n ih =>
   rw [minR]
   by_cases h : n < 256
   ·rw [if_pos h, minN_small h]; rfl
   ·rw [if_neg h, minN_more h, List.reverse_cons, ih (n / 256) (by omega)]
    congr 2
    exact UInt8.toNat_inj.1 (by rw [UInt8.toNat_ofNat', UInt8.toNat_ofNat']; omega)
theorem shr_nat {k : Nat} (n : Nat) {m : Int} {b : Nat} (hm : min m.toNat b = k) : (n : Int).fdiv (2 ^ (min m.toNat b)) = ((n / 2 ^ k : Nat) : Int) := by
 have h2 : (0 : Int) ≤ 2 ^ k := Int.le_of_lt (Int.pow_pos (by decide))
 rw [hm, Int.fdiv_eq_ediv_of_nonneg _ h2, Int.natCast_ediv, Int.natCast_pow]
 rfl
def digs (q : Nat) : List UInt8 := if q = 0 then [] else minR q
theorem minR_digs (n : Nat) : minR n = UInt8.ofNat n :: digs (n / 256) := by
 rw [minR, digs]
 by_cases h : n < 256
 ·rw [if_pos h, if_pos (by omega)]
 ·rw [if_neg h, if_neg (by omega)]
set_option maxRecDepth 100000 in
set_option maxHeartbeats 8000000 in
theorem min_any (n : Nat) (hn : n ≤ 18446744073709551615) : ACalls Tryz.prog 118 [.d (.v (.int .u64 (n : Int)))] (fun r => r = ownB 0 5 (minN n)) := by
 have hlen : (minR n).length ≤ 8 := by rw [← List.length_reverse, minR_rev]; exact (minN_len 7 n (by omega)).2
 refine acalls_vc 21 _ tabOk mixed Tryz.func118 rfl (by kernel_rfl) rfl rfl rfl rfl fun W0 fp0 z0 => ?_
 (repeat' ((conv => whnf); first | (with_reducible refine NInt.oct ?_) | (with_reducible refine NInt.shr ?_) | refine NFact.go (by first | decide | omega | (simp only [List.length_cons, List.length_nil]; omega)) ?_)); (all_goals (conv => whnf))
 refine NLoop.go (fun p : Nat × List UInt8 => p.1 ≤ 18446744073709551615 ∧ 0 < p.2.length ∧ p.2 ++ digs p.1 = minR n) (fun p => p.1) (fun p => ⟨[(0, .d (.v (.int .u64 (p.1 : Int)))), (2, nilA), (3, ownB 6 5 p.2)], [], [(6, (p.2.length, 1, 5))]⟩) (n / 2 ^ 8, [UInt8.ofNat n]) ⟨by simp only []; omega, by simp, (by rw [minR_digs n]; rfl)⟩ (by ((repeat' (first | exact trivial | exact leW_refl _ | refine And.intro ?_ ?_ | exact rfl)))) ?_
 ·rintro ⟨q, acc⟩ ⟨hq, ha, he⟩
  simp only [] at hq ha he
  by_cases h0 : q = 0
  ·subst h0
   rw [digs, if_pos rfl, List.append_nil] at he
   have hal : acc.length ≤ 8 := by rw [he]; exact hlen
   (repeat' ((conv => whnf); refine NBr.no ?_)); (all_goals (conv => whnf))
   refine NStep.go (step_rev (l := acc) (tm' := [(2, nilA), (3, ownB 6 5 acc.reverse)]) Tryz.laysRev (enters Tryz.func111 (by kernel_rfl) rfl) rfl rfl (ltN rfl) rfl rfl ha (by omega) (.v rfl (.own rfl .nil)) rfl) ?_
   (all_goals (conv => whnf))
   rw [← minR_rev, ← he]
   (refine NEnd.eq ?_; (repeat' (first | refine And.intro ?_ ?_ | exact rfl)))
  ·rw [digs, if_neg h0, minR_digs] at he
   have hal : acc.length ≤ 7 := by
    have := congrArg List.length he
    simp only [List.length_append, List.length_cons] at this
    omega
   (repeat' ((conv => whnf); first | (with_reducible refine NInt.oct ?_) | refine NApp.byte (_) ?_ | (with_reducible refine NInt.shr ?_) | refine NFact.go (by first | decide | omega | (simp only [List.length_cons, List.length_nil]; omega)) ?_ | (refine NBr.dec (fun hc hcP => ?_) (fun hc hcP => ?_) <;> try (exfalso; omega)))); (all_goals (conv => whnf))
   refine ⟨(q / 2 ^ 8, acc ++ [UInt8.ofNat q]), ⟨by simp only []; omega, by simp, by rw [List.append_assoc]; exact he⟩, by simp only []; omega, ?_⟩
   ((repeat' (first | exact trivial | exact leW_refl _ | refine And.intro ?_ ?_ | exact rfl)))
end Go.Proofs.YtblabcopgeobgaaGreatDoor

namespace Go.Proofs.YtblabcopgeobgaaGreatDoor
open Go.RowKit
theorem grow_nil (n : Nat) (hn : n ≤ 1000000000) : ACalls Tryz.prog 91 [nilA, iv n] (fun r => r = ownB 0 5 []) := by
 refine ⟨enters Tryz.func91 (by kernel_rfl) rfl, fun w fp0 z0 vs _ h0 hz hargs => ?_⟩
 match vs, hargs with
 | [v1, v2], ⟨a1, a2, _⟩ =>
   rw [a1.val, a2.val]
   by_cases h : n = 0
   ·subst h
    refine (Any8.slices_Grow_room Tryz.laysGrow none 0 0 0 w (Nat.le_refl _) (by omega) (by omega) (by omega)).mono ?_
    rintro e w' ⟨rfl, rfl⟩
    exact ⟨_, _, rfl, rfl, Below.refl _ _, rfl, fp0, fun _ => .slice none 0 0, z0, fun b o hf => ⟨.inl hf, h0 b o hf⟩, .own (rd_nil_sl true 1), fun n' sz' e' ht => by cases ht; exact ⟨⟨⟨[], World.ownsRow_nil _ _ _ _⟩, fun g hg => by cases hg⟩, fun g hg => by cases hg⟩, fun _ _ x => x, hz, fun _ _ x => .inl x⟩
   ·have hT : TyOk Tryz.prog 5 _ _ 1 1 := tyOk rfl
    obtain ⟨i0, e1, e2, e3, e4⟩ := hT.inf
    refine (Any8.slices_Grow_grow Tryz.laysGrow i0 _ e1 e2 (by omega) none 0 0 n [] w (Nat.le_refl _) (by omega) (by rw [e4]; omega) (by omega) (by simp) (fun _ => rfl) (fun a ha => by cases ha)).mono ?_
    rintro e w' ⟨rfl, rfl⟩
    have hcap := grownCap_le_maxLen w (0 + n) 0 5 (by unfold maxLen; omega)
    have hge : 0 + n ≤ grownCap w (0 + n) 0 5 := grownCap_ge w _ _ _
    have hbel : Below w.heap.size w (w.drew.alloc (.cells (([] : List Value).toArray ++ Builtin.zeroCells (Value.int .u8 0).cells (0 + n - 0) ++ Builtin.zeroCells (Value.int .u8 0).cells (grownCap w (0 + n) 0 5 - (0 + n))) 5)) := (Below.drew (Below.refl _ _)).alloc (Nat.le_refl _) _
    have hobj := heap_alloc_new w.drew (.cells (([] : List Value).toArray ++ Builtin.zeroCells (Value.int .u8 0).cells (0 + n - 0) ++ Builtin.zeroCells (Value.int .u8 0).cells (grownCap w (0 + n) 0 5 - (0 + n))) 5)
    refine ⟨_, _, rfl, rfl, hbel, rfl, fp0, fun _ => .slice (some ⟨w.heap.size, 0, none⟩) 0 (grownCap w (0 + n) 0 5), z0, fun b o hf => ⟨.inl hf, Nat.lt_of_lt_of_le (h0 b o hf) hbel.size⟩, .own (.sl [] (Nat.zero_le _) hcap rfl rfl (fun h => by cases h) (fun u hu => by simp at hu) (fun i d u _ hu => by simp at hu) (fun i u hu => by simp at hu)), fun n' sz' e' ht => ?_, fun _ _ x => x, hz, fun _ _ x => .inl x⟩
    cases ht
    refine ⟨?_, fun g hg o hzz => by cases hg; exact absurd (h0 _ _ (hz _ _ hzz)) (Nat.lt_irrefl _)⟩
    refine ⟨⟨[], by simp, .inr ⟨w.heap.size, _, _, rfl, Nat.le_refl _, hobj, Nat.zero_le _, hcap, ?_, by simp⟩⟩, fun g hg o _ hf => ?_⟩
    ·have hz : ∀ k, (Builtin.zeroCells (Value.int .u8 0).cells k).size = k := fun k => by simp [Builtin.zeroCells, Value.cells]
     rw [Array.size_append, Array.size_append, hz, hz]
     simp only [List.size_toArray, List.length_nil]; omega
    ·cases hg
     have h9 : w.heap.size < w.heap.size := h0 _ _ hf
     omega
end Go.Proofs.YtblabcopgeobgaaGreatDoor

namespace Go.Proofs.YtblabcopgeobgaaGreatDoor
open Go.RowKit
def partC (p : List UInt8) : List D := [bytesD false p]
theorem un_tab {α : Type} {f : α → List D} (hf : ∀ x, D.uns (f x) = f x) (t : Bool) (sz : Nat) (l : List α) : (tabD t sz f l).un = tabD false sz f l := by
 have : ∀ l : List α, D.uns (l.flatMap f) = l.flatMap f := fun l => by
  induction l with
  | nil => rfl
  | cons x r ih =>
    rw [List.flatMap_cons, D.uns_eq, List.map_append, ← D.uns_eq, ← D.uns_eq, hf, ih]
 unfold tabD
 rw [D.un, this]
def partsD (ps : List (List UInt8)) : D := tabD false 1 partC ps
theorem un_partsD (ps : List (List UInt8)) : (partsD ps).un = partsD ps := un_tab (fun x => by simp only [partC, D.uns, un_bytesD]) false 1 ps
theorem flat_snoc {ps : List (List UInt8)} {i : Nat} {p : List UInt8} (h : ps[i]? = some p) : (ps.take (i + 1)).flatten = (ps.take i).flatten ++ p := by
 obtain ⟨hlt, he⟩ := List.getElem?_eq_some_iff.1 h
 rw [List.take_succ_eq_append_getElem hlt, he, List.flatten_append]; simp
theorem flat_le (ps : List (List UInt8)) (i : Nat) : (ps.take i).flatten.length ≤ ps.flatten.length := by
 conv => rhs; rw [← List.take_append_drop i ps, List.flatten_append, List.length_append]
 omega
set_option maxRecDepth 100000 in
set_option maxHeartbeats 8000000 in
theorem concat_any (ps : List (List UInt8)) (hl : ps.flatten.length ≤ 1000000000) (hn : ps.length ≤ 1000000000) : ACalls Tryz.prog 65 [.d (partsD ps)] (fun r => r = ownB 0 5 ps.flatten) := by
 refine acalls_vc 36 _ tabOk mixed Tryz.func65 rfl (by kernel_rfl) rfl rfl rfl rfl fun W0 fp0 z0 => ?_
 (all_goals (conv => whnf))
 refine NLoop.go (fun i : Nat => i ≤ ps.length) (fun i => ps.length - i) (fun i => ⟨[(0, .d (partsD ps)), (2, nilA), (3, iv (ps.take i).flatten.length), (9, .d (partsD ps)), (10, iv ps.length), (11, iv i)], [], []⟩) 0 (by omega) (by ((repeat' (first | exact trivial | exact leW_refl _ | refine And.intro ?_ ?_)))) ?_
 ·intro i hi
  by_cases hik : i < ps.length
  ·obtain ⟨p, hp⟩ : ∃ p, ps[i]? = some p := ⟨_, List.getElem?_eq_getElem hik⟩
   have hs := flat_snoc hp
   have hle := flat_le ps (i + 1)
   have hss : (ps.take (i + 1)).flatten.length = (ps.take i).flatten.length + p.length := by rw [hs, List.length_append]
   (repeat' ((conv => whnf); first | refine NBr.no ?_ | refine NIdx.tab (fun _ => rfl) hp ?_ | (with_reducible refine NInt.i64 ?_) | (refine NBr.dec (fun hc hcP => ?_) (fun hc hcP => ?_) <;> try (exfalso; omega)))); (all_goals (conv => whnf))
   refine ⟨i + 1, by omega, by omega, ?_⟩
   rw [hss]
   ((repeat' (first | exact trivial | exact leW_refl _ | refine And.intro ?_ ?_)))
  ·obtain rfl : i = ps.length := by omega
   rw [List.take_length]
   (repeat' ((conv => whnf); first | refine NCall.eq (grow_nil ps.flatten.length hl) (by rfl) ?_ | (refine NBr.dec (fun hc hcP => ?_) (fun hc hcP => ?_) <;> try (exfalso; omega)))); (all_goals (conv => whnf))
   refine NLoop.go (fun i : Nat => i ≤ ps.length) (fun i => ps.length - i) (fun i => ⟨[(0, .d (partsD ps)), (2, nilA), (6, ownB 24 5 (ps.take i).flatten), (25, .d (partsD ps)), (26, iv ps.length), (27, iv i)], [], [(24, ((ps.take i).flatten.length, 1, 5))]⟩) 0 (by omega) (by ((repeat' (first | exact trivial | exact leW_refl _ | refine And.intro ?_ ?_ | exact rfl)))) ?_
   ·intro i hi
    by_cases hik : i < ps.length
    ·obtain ⟨p, hp⟩ : ∃ p, ps[i]? = some p := ⟨_, List.getElem?_eq_getElem hik⟩
     have hs := flat_snoc hp
     have hle := flat_le ps (i + 1)
     have hss : (ps.take (i + 1)).flatten.length = (ps.take i).flatten.length + p.length := by rw [hs, List.length_append]
     (repeat' ((conv => whnf); first | refine NIdx.tab (fun _ => rfl) hp ?_ | (with_reducible refine NInt.i64 ?_) | (with_reducible refine NApp.bytes ?_) | (refine NBr.dec (fun hc hcP => ?_) (fun hc hcP => ?_) <;> try (exfalso; omega)))); (all_goals (conv => whnf))
     refine ⟨i + 1, by omega, by omega, ?_⟩
     rw [hs]
     ((repeat' (first | exact trivial | exact leW_refl _ | refine And.intro ?_ ?_ | exact rfl)))
    ·obtain rfl : i = ps.length := by omega
     rw [List.take_length]
     (repeat' ((conv => whnf); refine NBr.neg (by assumption) ?_)); (all_goals (conv => whnf))
     all_goals (refine NEnd.eq ?_; (repeat' (first | refine And.intro ?_ ?_ | exact rfl)))
     all_goals rfl
set_option maxRecDepth 100000 in
set_option maxHeartbeats 8000000 in
theorem clone_any (l : List UInt8) (hl : l.length ≤ 1000000000) : ACalls Tryz.prog 41 [.d (bytesD false l)] (fun r => r = .d (bytesD true l)) := by
 refine acalls_vc 8 _ tabOk mixed Tryz.func41 rfl (by kernel_rfl) rfl rfl rfl rfl fun W0 fp0 z0 => ?_
 (repeat' ((conv => whnf); first | (refine NStep.some (step_eqnil (sz := 1) rfl rfl (ltN rfl) (tabOk.ty rfl).u rfl rfl) ?_; rintro _ ⟨b, hnil, rfl⟩) | (with_reducible refine NApp.bytes0 ?_) | refine NBr.mk (fun hc => ?_) (fun hc => ?_))); (all_goals (conv => whnf))
 ·have h0 : l = [] := List.length_eq_zero_iff.1 (hnil hc)
  subst h0
  (refine NEnd.eq ?_; (repeat' (first | refine And.intro ?_ ?_ | exact rfl)))
 ·(refine NEnd.eq ?_; (repeat' (first | refine And.intro ?_ ?_ | exact rfl)))
def encS (c n : Nat) (k : Bool) (l : List UInt8) : List UInt8 := putS (UInt8.ofNat (idN c k n)) l
theorem badId_no {c n : Nat} (hc : c ≤ 3) (hn : n ≤ 30) : badId (c : Int) (n : Int) = false := by
 unfold badId
 simp; omega
theorem idN_lt {c n : Nat} (k : Bool) (hc : c ≤ 3) (hn : n ≤ 30) : idN c k n < 256 := by
 unfold idN
 cases k <;> simp <;> omega
theorem ident_nat (c n : Nat) (k : Bool) (hc : c ≤ 3) (hn : n ≤ 30) : ACalls Tryz.prog 89 [iv c, bv k, iv n] (fun r => r = .tup [cv (UInt8.ofNat (idN c k n)).toNat, iv 0]) := by
 have := ident_ok k (badId_no hc hn)
 have h2 := idN_lt k hc hn
 rw [show (UInt8.ofNat (idN c k n)).toNat = idN c k n by rw [UInt8.toNat_ofNat']; omega]
 exact this
set_option maxRecDepth 100000 in
set_option maxHeartbeats 8000000 in
theorem len_any (n : Nat) (hn : n ≤ 2147483647) : ACalls Tryz.prog 90 [iv n] (fun r => r = .tup [ownB 0 5 (lenS n), iv 0]) := by
 have hM := min_any n (by omega)
 have hL := minN_len 3 n (by omega)
 by_cases h : n < 128
 ·rw [lenS, if_pos h]
  refine acalls_vc 24 _ tabOk mixed Tryz.func90 rfl (by kernel_rfl) rfl rfl rfl rfl fun W0 fp0 z0 => ?_
  (repeat' ((conv => whnf); first | refine NBr.no ?_ | refine NCall.eq (hM) (by rfl) ?_ | (with_reducible refine NInt.u64 ?_) | (refine NBr.dec (fun hc hcP => ?_) (fun hc hcP => ?_) <;> try (exfalso; omega)))); (all_goals (conv => whnf))
  all_goals (refine NEnd.eq ?_; (repeat' (first | exact trivial | exact leW_refl _ | refine And.intro ?_ ?_ | exact rfl)))
  all_goals rfl
 ·rw [lenS, if_neg h]
  refine acalls_vc 24 _ tabOk mixed Tryz.func90 rfl (by kernel_rfl) rfl rfl rfl rfl fun W0 fp0 z0 => ?_
  (repeat' ((conv => whnf); first | refine NBr.no ?_ | refine NCall.eq (hM) (by rfl) ?_ | (with_reducible refine NInt.octZ (128 + (minN n).length) ?_) | refine NApp.lit ([UInt8.ofNat (128 + (minN n).length)]) ?_ | (with_reducible refine NInt.i64 ?_) | (with_reducible refine NInt.u64 ?_) | (refine NBr.dec (fun hc hcP => ?_) (fun hc hcP => ?_) <;> try (exfalso; omega)))); (all_goals (conv => whnf))
  all_goals (refine NEnd.eq ?_; (repeat' (first | exact trivial | exact leW_refl _ | refine And.intro ?_ ?_ | exact rfl)))
set_option maxRecDepth 100000 in
set_option maxHeartbeats 8000000 in
theorem enc_any (c n : Nat) (k : Bool) (l : List UInt8) (hc : c ≤ 3) (hn : n ≤ 30) (hl : l.length ≤ 900000000) : ACalls Tryz.prog 64 [iv c, bv k, iv n, .d (bytesD false l)] (fun r => r = .tup [ownB 0 5 (encS c n k l), iv 0]) := by
 have hI := ident_nat c n k hc hn
 have hM := len_any l.length (by omega)
 have hL := lenS_len l.length (by omega)
 have hF : [[UInt8.ofNat (idN c k n)], lenS l.length, l].flatten = encS c n k l := by simp [encS, putS]
 have hC := concat_any [[UInt8.ofNat (idN c k n)], lenS l.length, l] (by simp; omega) (by simp)
 rw [hF] at hC
 refine acalls_vc 38 _ tabOk mixed Tryz.func64 rfl (by kernel_rfl) rfl rfl rfl rfl fun W0 fp0 z0 => ?_
 (repeat' ((conv => whnf); first | refine NBr.no ?_ | refine NCall.eq (hI) (by rfl) ?_ | refine NCall.eq (hM) (by rfl) ?_ | refine NCall.eq (hC) (by first | rfl | (simp only [AV.gives, AV.give, D.un, D.uns, un_bytesD, uns_bytesL]; first | done | rfl)) ?_)); (all_goals (conv => whnf))
 all_goals (refine NEnd.eq ?_; (repeat' (first | exact trivial | exact leW_refl _ | refine And.intro ?_ ?_ | exact rfl)))
 all_goals rfl
theorem elC_uns (e : El) : D.uns (elC e) = elC e := rfl
set_option maxRecDepth 100000 in
set_option maxHeartbeats 8000000 in
theorem wrap_any (c n : Nat) (k : Bool) (ps : List (List UInt8)) (hc : c ≤ 3) (hn : n ≤ 30) (hl : ps.flatten.length ≤ 900000000) (hp : ps.length ≤ 1000000000) : ACalls Tryz.prog 38 [iv c, bv k, iv n, .d (partsD ps)] (fun r => r = .tup [ownB 0 5 (encS c n k ps.flatten), iv 0]) := by
 have hC := concat_any ps (by omega) hp
 have hE := enc_any c n k ps.flatten hc hn hl
 refine acalls_vc 18 _ tabOk mixed Tryz.func38 rfl (by kernel_rfl) rfl rfl rfl rfl fun W0 fp0 z0 => ?_
 (repeat' ((conv => whnf); first | refine NCall.eq (hC) (by first | rfl | (simp only [AV.gives, AV.give, un_partsD]; first | done | rfl)) ?_ | refine NCall.eq (hE) (by first | rfl | (simp only [AV.gives, AV.give, D.un, uns_bytesL]; first | done | rfl)) ?_)); (all_goals (conv => whnf))
 all_goals (refine NEnd.eq ?_; (repeat' (first | exact trivial | exact leW_refl _ | refine And.intro ?_ ?_ | exact rfl)))
 all_goals rfl
set_option maxRecDepth 100000 in
set_option maxHeartbeats 8000000 in
theorem seq_any (ps : List (List UInt8)) (hl : ps.flatten.length ≤ 900000000) (hp : ps.length ≤ 1000000000) : ACalls Tryz.prog 63 [.d (partsD ps)] (fun r => r = .tup [ownB 0 5 (encS 0 16 true ps.flatten), iv 0]) := by
 have hW := wrap_any 0 16 true ps (by omega) (by omega) hl hp
 refine acalls_vc 8 _ tabOk mixed Tryz.func63 rfl (by kernel_rfl) rfl rfl rfl rfl fun W0 fp0 z0 => ?_
 (repeat' ((conv => whnf); refine NCall.eq (hW) (by first | rfl | (simp only [AV.gives, AV.give, D.un, un_partsD]; first | done | rfl)) ?_)); (all_goals (conv => whnf))
 all_goals (refine NEnd.eq ?_; (repeat' (first | exact trivial | exact leW_refl _ | refine And.intro ?_ ?_ | exact rfl)))
 all_goals rfl
end Go.Proofs.YtblabcopgeobgaaGreatDoor

namespace Go.Proofs.YtblabcopgeobgaaGreatDoor
open Go.RowKit
structure LR where
 l : List El
 code : Nat
 off : Nat
def listF (b : List UInt8) (en : Nat) : Nat → Nat → LR
 | 0, _ => ⟨[], 0, 0⟩
 | f + 1, at' => if at' < en then
     if (nxS b at' en).code ≠ 0 then ⟨[], (nxS b at' en).code, (nxS b at' en).off⟩
     else if (listF b en f (nxS b at' en).x.stop).code ≠ 0 then listF b en f (nxS b at' en).x.stop
     else ⟨(nxS b at' en).x :: (listF b en f (nxS b at' en).x.stop).l, 0, 0⟩
   else ⟨[], 0, 0⟩
def listS (b : List UInt8) (frm en : Nat) : LR := listF b en (en - frm) frm
theorem listF_more (b : List UInt8) (en : Nat) (hto : en ≤ b.length) : ∀ (f g at' : Nat), en - at' ≤ f → f ≤ g → listF b en g at' = listF b en f at' := by
 intro f
 induction f with
 | zero =>
   intro g at' h1 h2
   cases g with
   | zero => rfl
   | succ g =>
     conv => lhs; rw [listF, if_neg (by omega)]
     rfl
 | succ f ih =>
   intro g at' h1 h2
   obtain ⟨g, rfl⟩ : ∃ j, g = j + 1 := ⟨g - 1, by omega⟩
   rw [listF, listF]
   by_cases h3 : at' < en
   ·rw [if_pos h3, if_pos h3]
    by_cases h4 : (nxS b at' en).code ≠ 0
    ·rw [if_pos h4, if_pos h4]
    ·have h5 := (nxS_facts b at' en (by omega) hto).1 (by omega)
     rw [if_neg h4, if_neg h4, ih g _ (by omega) (by omega)]
   ·rw [if_neg h3, if_neg h3]
theorem listF_ok (b : List UInt8) (en : Nat) : ∀ (f at' : Nat), (listF b en f at').code = 0 → listF b en f at' = ⟨(listF b en f at').l, 0, 0⟩ := by
 intro f
 induction f with
 | zero => intro at' _; rfl
 | succ f ih =>
   intro at' h
   rw [listF] at h ⊢
   by_cases h3 : at' < en
   ·rw [if_pos h3] at h ⊢
    by_cases h4 : (nxS b at' en).code ≠ 0
    ·rw [if_pos h4] at h
     exact absurd h h4
    ·rw [if_neg h4] at h ⊢
     by_cases h5 : (listF b en f (nxS b at' en).x.stop).code ≠ 0
     ·rw [if_pos h5] at h
      exact absurd h h5
     ·rw [if_neg h5]
   ·rw [if_neg h3]
theorem listS_end {b : List UInt8} {at' en : Nat} (h : ¬ at' < en) : listS b at' en = ⟨[], 0, 0⟩ := by
 rw [listS, show en - at' = 0 by omega]; rfl
theorem listS_bad {b : List UInt8} {at' en : Nat} (h : at' < en) (h1 : (nxS b at' en).code ≠ 0) : listS b at' en = ⟨[], (nxS b at' en).code, (nxS b at' en).off⟩ := by
 obtain ⟨f, hf⟩ : ∃ f, en - at' = f + 1 := ⟨en - at' - 1, by omega⟩
 rw [listS, hf, listF, if_pos h, if_pos h1]
theorem listS_step {b : List UInt8} {at' en : Nat} (hto : en ≤ b.length) (h : at' < en) (h1 : (nxS b at' en).code = 0) : listS b at' en = if (listS b (nxS b at' en).x.stop en).code ≠ 0 then listS b (nxS b at' en).x.stop en else ⟨(nxS b at' en).x :: (listS b (nxS b at' en).x.stop en).l, 0, 0⟩ := by
 obtain ⟨f, hf⟩ : ∃ f, en - at' = f + 1 := ⟨en - at' - 1, by omega⟩
 have h5 := (nxS_facts b at' en (by omega) hto).1 h1
 have e : listF b en f (nxS b at' en).x.stop = listS b (nxS b at' en).x.stop en := listF_more b en hto _ _ _ (Nat.le_refl _) (by omega)
 rw [show listS b at' en = listF b en (f + 1) at' by rw [listS, hf], listF, if_pos h, if_neg (by omega), e]
def elsD (l : List El) : D := tabD true 6 elC l
theorem un_elsD (l : List El) : (elsD l).un = tabD false 6 elC l := un_tab elC_uns true 6 l
theorem un_elsF (l : List El) : (tabD false 6 elC l).un = tabD false 6 elC l := un_tab elC_uns false 6 l
def lrA (r : LR) : AV := if r.code ≠ 0 then .tup [nilA, erA r.code r.off] else .tup [.d (elsD r.l), erA 0 0]
set_option maxRecDepth 100000 in
set_option maxHeartbeats 8000000 in
theorem list_any (b : List UInt8) (frm en : Nat) (hb : b.length ≤ 1000000000) (h1 : frm ≤ en) (h2 : en ≤ b.length) : ACalls Tryz.prog 104 [.d (bytesD false b), iv frm, iv en] (fun r => r = lrA (listS b frm en)) := by
 refine acalls_vc 49 _ tabOk mixed Tryz.func104 rfl (by kernel_rfl) rfl rfl rfl rfl fun W0 fp0 z0 => ?_
 (repeat' ((conv => whnf); first | refine NBr.no ?_ | (refine NBr.dec (fun hc hcP => ?_) (fun hc hcP => ?_) <;> try (exfalso; omega)))); (all_goals (conv => whnf))
 refine NLoop.goA [.s 8 6 74] (fun p : Nat × List El => p.1 ≤ en ∧ p.2.length ≤ p.1 ∧ (listS b frm en = if (listS b p.1 en).code ≠ 0 then listS b p.1 en else ⟨p.2 ++ (listS b p.1 en).l, 0, 0⟩)) (fun p => en - p.1) (fun p => ⟨[(0, .d (bytesD false b)), (2, iv en), (6, nilA), (7, .ptr 7 0), (8, ownT 8 6 74 elC p.2), (9, iv p.1)], [(7, [iv 0, iv 0])], [(8, (p.2.length, 6, 74))]⟩) (frm, []) ⟨h1, by simp, ?_⟩ ?_ ?_
 ·show listS b frm en = if (listS b frm en).code ≠ 0 then listS b frm en else ⟨[] ++ (listS b frm en).l, 0, 0⟩
  by_cases h : (listS b frm en).code ≠ 0
  ·rw [if_pos h]
  ·rw [if_neg h]
   exact listF_ok b en _ _ (Decidable.not_not.1 h)
 ·((repeat' (first | exact trivial | exact leW_refl _ | refine And.intro ?_ ?_ | exact rfl)))
 ·rintro ⟨at', acc⟩ ⟨hat, hacc, he⟩
  simp only [] at hat hacc he
  by_cases h3 : at' < en
  ·have hN := next_any b at' en hb hat h2
   have hF := nxS_facts b at' en hat h2
   by_cases h4 : (nxS b at' en).code = 0
   ·obtain ⟨f1, f2, f3, f4, f5⟩ := hF.1 h4
    rw [listS_step h2 h3 h4] at he
    (repeat' ((conv => whnf); first | refine NCall.eq (hN) (by first | rfl | (simp only [AV.gives, AV.give, D.un, un_bytesD]; first | done | rfl)) ?_ | refine NApp.one elC (nxS b at' en).x ?_ | (refine NBr.dec (fun hc hcP => ?_) (fun hc hcP => ?_) <;> try (exfalso; omega)) | (refine NBr.bne (fun hc hcP => ?_) (fun hc hcP => ?_) <;> try (exfalso; omega)))); (all_goals (conv => whnf))
    refine ⟨((nxS b at' en).x.stop, acc ++ [(nxS b at' en).x]), ⟨by simp only []; omega, by simp; omega, ?_⟩, by simp only []; omega, ?_⟩
    ·rw [he]
     by_cases h6 : (listS b (nxS b at' en).x.stop en).code ≠ 0
     ·rw [if_pos h6, if_pos h6, if_pos h6]
     ·rw [if_neg h6, if_neg h6, if_neg (by simp)]
      simp
    ·((repeat' (first | exact trivial | exact leW_refl _ | refine And.intro ?_ ?_ | exact rfl)))
   ·rw [listS_bad h3 h4, if_pos h4] at he
    (repeat' ((conv => whnf); first | refine NCall.eq (hN) (by first | rfl | (simp only [AV.gives, AV.give, D.un, un_bytesD]; first | done | rfl)) ?_ | refine NFact.go ⟨by decide +kernel, by kernel_rfl⟩ ?_ | (refine NBr.dec (fun hc hcP => ?_) (fun hc hcP => ?_) <;> try (exfalso; omega)) | (refine NBr.bne (fun hc hcP => ?_) (fun hc hcP => ?_) <;> try (exfalso; omega)))); (all_goals (conv => whnf))
    all_goals (rw [he, lrA, if_pos h4]; (refine NEnd.eq ?_; (repeat' (first | exact leW_refl _ | refine And.intro ?_ ?_ | exact rfl))))
  ·rw [listS_end h3, if_neg (by simp)] at he
   simp only [List.append_nil] at he
   (repeat' ((conv => whnf); (refine NBr.dec (fun hc hcP => ?_) (fun hc hcP => ?_) <;> try (exfalso; omega)))); (all_goals (conv => whnf))
   all_goals (rw [he, lrA, if_neg (by simp)]; (refine NEnd.eq ?_; (repeat' (first | exact trivial | exact leW_refl _ | refine And.intro ?_ ?_ | exact rfl))))
theorem listF_in {b : List UInt8} {en : Nat} (hto : en ≤ b.length) : ∀ (f at' : Nat) (x : El), x ∈ (listF b en f at').l → at' ≤ x.at' ∧ x.at' + 2 ≤ x.body ∧ x.body ≤ x.stop ∧ x.stop ≤ en ∧ x.c ≤ 3 ∧ x.n ≤ 30 := by
 intro f
 induction f with
 | zero => intro at' x h; simp [listF] at h
 | succ f ih =>
   intro at' x h
   rw [listF] at h
   by_cases h3 : at' < en
   ·rw [if_pos h3] at h
    have hF := nxS_facts b at' en (by omega) hto
    by_cases h4 : (nxS b at' en).code ≠ 0
    ·rw [if_pos h4] at h; simp at h
    ·rw [if_neg h4] at h
     obtain ⟨f1, f2, f3, f4, f5⟩ := hF.1 (Decidable.not_not.1 h4)
     by_cases h5 : (listF b en f (nxS b at' en).x.stop).code ≠ 0
     ·rw [if_pos h5] at h
      have := ih _ x h
      omega
     ·rw [if_neg h5] at h
      simp only [List.mem_cons] at h
      rcases h with rfl | h
      ·omega
      ·have := ih _ x h
       omega
   ·rw [if_neg h3] at h; simp at h
theorem listS_in {b : List UInt8} {frm en : Nat} (hto : en ≤ b.length) {x : El} (h : x ∈ (listS b frm en).l) : frm ≤ x.at' ∧ x.at' + 2 ≤ x.body ∧ x.body ≤ x.stop ∧ x.stop ≤ en ∧ x.c ≤ 3 ∧ x.n ≤ 30 := listF_in hto _ _ x h
theorem listF_len {b : List UInt8} {en : Nat} (hto : en ≤ b.length) : ∀ (f at' : Nat), (listF b en f at').l.length ≤ en - at' := by
 intro f
 induction f with
 | zero => intro at'; simp [listF]
 | succ f ih =>
   intro at'
   rw [listF]
   by_cases h3 : at' < en
   ·rw [if_pos h3]
    have hF := nxS_facts b at' en (by omega) hto
    by_cases h4 : (nxS b at' en).code ≠ 0
    ·rw [if_pos h4]; simp
    ·rw [if_neg h4]
     obtain ⟨f1, f2, f3, f4, f5⟩ := hF.1 (Decidable.not_not.1 h4)
     have := ih (nxS b at' en).x.stop
     by_cases h5 : (listF b en f (nxS b at' en).x.stop).code ≠ 0
     ·rw [if_pos h5]; omega
     ·rw [if_neg h5]
      simp only [List.length_cons]
      omega
   ·rw [if_neg h3]; simp
theorem oneS_facts (b : List UInt8) : ((oneS b).code = 0 → (oneS b).x.at' = 0 ∧ 2 ≤ (oneS b).x.body ∧ (oneS b).x.body ≤ (oneS b).x.stop ∧ (oneS b).x.stop = b.length ∧ (oneS b).off = 0) ∧ (oneS b).code ≤ 4 ∧ (oneS b).off ≤ b.length ∧ (oneS b).x.c ≤ 3 ∧ (oneS b).x.n ≤ 30 ∧ (oneS b).x.stop ≤ b.length ∧ (oneS b).x.body ≤ (oneS b).x.stop := by
 have hF := nxS_facts b 0 b.length (by omega) (by omega)
 unfold oneS
 by_cases h : (nxS b 0 b.length).code = 0 ∧ (nxS b 0 b.length).x.stop < b.length
 ·rw [if_pos h]
  simp only [ElR.bad, El.zero]
  omega
 ·rw [if_neg h]
  omega
def partsS (b : List UInt8) (c n : Nat) : LR :=
 if (oneS b).code ≠ 0 then ⟨[], (oneS b).code, (oneS b).off⟩ else if (oneS b).x.isB c n true = false then ⟨[], 3, 0⟩ else listS b (oneS b).x.body (oneS b).x.stop
set_option maxRecDepth 100000 in
set_option maxHeartbeats 8000000 in
theorem parts_any (b : List UInt8) (c n : Nat) (hb : b.length ≤ 1000000000) : ACalls Tryz.prog 75 [.d (bytesD false b), iv c, iv n] (fun r => r = lrA (partsS b c n)) := by
 have hO := one_any b hb
 have hF := oneS_facts b
 by_cases h1 : (oneS b).code = 0
 ·obtain ⟨f1, f2, f3, f4, f5⟩ := hF.1 h1
  have hI := is_any (oneS b).x c n true
  by_cases h2 : (oneS b).x.isB c n true = false
  ·have e : partsS b c n = ⟨[], 3, 0⟩ := by rw [partsS, if_neg (by omega), if_pos h2]
   rw [h2] at hI
   rw [e]
   refine acalls_vc 33 _ tabOk mixed Tryz.func75 rfl (by kernel_rfl) rfl rfl rfl rfl fun W0 fp0 z0 => ?_
   (repeat' ((conv => whnf); first | refine NBr.yes ?_ | refine NCall.eq (hO) (by first | rfl | (simp only [AV.gives, AV.give, un_bytesD]; first | done | rfl)) ?_ | refine NCall.eq (hI) (by rfl) ?_ | (refine NBr.bne (fun hc hcP => ?_) (fun hc hcP => ?_) <;> try (exfalso; omega)))); (all_goals (conv => whnf))
   all_goals (refine NEnd.eq ?_; (repeat' (first | exact leW_refl _ | refine And.intro ?_ ?_ | exact rfl)))
   all_goals rfl
  ·have e : partsS b c n = listS b (oneS b).x.body (oneS b).x.stop := by rw [partsS, if_neg (by omega), if_neg h2]
   have hL := list_any b (oneS b).x.body (oneS b).x.stop hb f3 (by omega)
   rw [Bool.not_eq_false] at h2
   rw [h2] at hI
   rw [e]
   by_cases h3 : (listS b (oneS b).x.body (oneS b).x.stop).code ≠ 0
   ·rw [lrA, if_pos h3] at hL ⊢
    refine acalls_vc 33 _ tabOk mixed Tryz.func75 rfl (by kernel_rfl) rfl rfl rfl rfl fun W0 fp0 z0 => ?_
    (repeat' ((conv => whnf); first | refine NBr.no ?_ | refine NCall.eq (hO) (by first | rfl | (simp only [AV.gives, AV.give, un_bytesD]; first | done | rfl)) ?_ | refine NCall.eq (hI) (by rfl) ?_ | refine NCall.eq (hL) (by first | rfl | (simp only [AV.gives, AV.give, D.un, un_bytesD]; first | done | rfl)) ?_ | (refine NBr.bne (fun hc hcP => ?_) (fun hc hcP => ?_) <;> try (exfalso; omega)))); (all_goals (conv => whnf))
    all_goals (refine NEnd.eq ?_; (repeat' (first | exact leW_refl _ | refine And.intro ?_ ?_ | exact rfl)))
    all_goals rfl
   ·rw [lrA, if_neg h3] at hL ⊢
    refine acalls_vc 33 _ tabOk mixed Tryz.func75 rfl (by kernel_rfl) rfl rfl rfl rfl fun W0 fp0 z0 => ?_
    (repeat' ((conv => whnf); first | refine NBr.no ?_ | refine NCall.eq (hO) (by first | rfl | (simp only [AV.gives, AV.give, un_bytesD]; first | done | rfl)) ?_ | refine NCall.eq (hI) (by rfl) ?_ | refine NCall.eq (hL) (by first | rfl | (simp only [AV.gives, AV.give, D.un, un_bytesD]; first | done | rfl)) ?_ | (refine NBr.bne (fun hc hcP => ?_) (fun hc hcP => ?_) <;> try (exfalso; omega)))); (all_goals (conv => whnf))
    all_goals (refine NEnd.eq ?_; (repeat' (first | exact leW_refl _ | refine And.intro ?_ ?_ | exact rfl)))
    all_goals rfl
 ·have e : partsS b c n = ⟨[], (oneS b).code, (oneS b).off⟩ := by rw [partsS, if_pos h1]
  rw [e, lrA, if_pos h1]
  refine acalls_vc 33 _ tabOk mixed Tryz.func75 rfl (by kernel_rfl) rfl rfl rfl rfl fun W0 fp0 z0 => ?_
  (repeat' ((conv => whnf); first | refine NCall.eq (hO) (by first | rfl | (simp only [AV.gives, AV.give, un_bytesD]; first | done | rfl)) ?_ | refine NFact.go ⟨by decide +kernel, by kernel_rfl⟩ ?_ | (refine NBr.bne (fun hc hcP => ?_) (fun hc hcP => ?_) <;> try (exfalso; omega)))); (all_goals (conv => whnf))
  all_goals (refine NEnd.eq ?_; (repeat' (first | exact leW_refl _ | refine And.intro ?_ ?_ | exact rfl)))
  all_goals rfl
end Go.Proofs.YtblabcopgeobgaaGreatDoor

namespace Go.Proofs.YtblabcopgeobgaaGreatDoor
open Go.RowKit
def ordB : List (List UInt8) → Bool
 | [] => true
 | [_] => true
 | a :: b :: r => decide (cmpL a b < 0) && ordB (b :: r)
theorem ord_short {ps : List (List UInt8)} (h : ps.length ≤ 1) : ordB ps = true := by
 match ps, h with
 | [], _ => rfl
 | [_], _ => rfl
theorem ord_step {ps : List (List UInt8)} {i : Nat} {a b : List UInt8} (h1 : ps[i]? = some a) (h2 : ps[i + 1]? = some b) : ordB (ps.drop i) = (decide (cmpL a b < 0) && ordB (ps.drop (i + 1))) := by
 obtain ⟨l1, e1⟩ := List.getElem?_eq_some_iff.1 h1
 obtain ⟨l2, e2⟩ := List.getElem?_eq_some_iff.1 h2
 rw [List.drop_eq_getElem_cons l1, List.drop_eq_getElem_cons l2, e1, e2, ordB]
set_option maxRecDepth 100000 in
set_option maxHeartbeats 8000000 in
theorem ordered_any (ps : List (List UInt8)) (hn : ps.length ≤ 1000000000) (hl : ∀ p ∈ ps, p.length ≤ 1000000000) : ACalls Tryz.prog 105 [.d (partsD ps)] (fun r => r = bv (ordB ps)) := by
 refine acalls_vc 25 _ tabOk mixed Tryz.func105 rfl (by kernel_rfl) rfl rfl rfl rfl fun W0 fp0 z0 => ?_
 (all_goals (conv => whnf))
 refine NLoop.go (fun i : Nat => i ≤ ps.length ∧ ordB ps = ordB (ps.drop (i - 1))) (fun i => ps.length - i) (fun i => ⟨[(0, .d (partsD ps)), (2, bv false), (4, .d (partsD ps)), (5, iv ps.length), (6, iv i)], [], []⟩) 0 ⟨by omega, rfl⟩ (by ((repeat' (first | exact trivial | exact leW_refl _ | refine And.intro ?_ ?_)))) ?_
 ·rintro i ⟨hi, he⟩
  by_cases hik : i < ps.length
  ·obtain ⟨b, hb⟩ : ∃ p, ps[i]? = some p := ⟨_, List.getElem?_eq_getElem hik⟩
   by_cases h0 : i = 0
   ·subst h0
    have hg : decide (((0 : Nat) : Int) > 0) = false := rfl
    (repeat' ((conv => whnf); first | refine NBr.no ?_ | (with_reducible refine NInt.i64 ?_) | refine NFact.go ⟨by decide +kernel, by kernel_rfl⟩ ?_ | (refine NBr.dec (fun hc hcP => ?_) (fun hc hcP => ?_) <;> try (exfalso; omega)))); (all_goals (conv => whnf))
    refine ⟨0 + 1, ⟨by omega, he⟩, by omega, ?_⟩
    ((repeat' (first | exact trivial | exact leW_refl _ | refine And.intro ?_ ?_)))
   ·obtain ⟨j, rfl⟩ : ∃ j, i = j + 1 := ⟨i - 1, by omega⟩
    obtain ⟨a, ha⟩ : ∃ p, ps[j]? = some p := ⟨_, List.getElem?_eq_getElem (by omega)⟩
    have hg : decide (((j + 1 : Nat) : Int) > 0) = true := decide_eq_true (by omega)
    have hC := cmp_any a b (hl a (List.mem_of_getElem? ha)) (hl b (List.mem_of_getElem? hb))
    rw [Nat.add_sub_cancel, ord_step ha hb] at he
    by_cases hcm : cmpL a b < 0
    ·rw [decide_eq_true hcm, Bool.true_and] at he
     have hg2 : decide (cmpL a b ≥ 0) = false := decide_eq_false (by omega)
     (repeat' ((conv => whnf); first | refine NBr.pos (by assumption) ?_ | refine NBr.neg (by assumption) ?_ | refine NCall.eq (hC) (by first | rfl | (simp only [AV.gives, AV.give, un_bytesD]; first | done | rfl)) ?_ | refine NIdx.tab (fun _ => rfl) ha ?_ | refine NIdx.tab (fun _ => rfl) hb ?_ | (with_reducible refine NInt.i64 ?_) | refine NFact.go ⟨by decide +kernel, by kernel_rfl⟩ ?_ | (refine NBr.dec (fun hc hcP => ?_) (fun hc hcP => ?_) <;> try (exfalso; omega)))); (all_goals (conv => whnf))
     refine ⟨j + 1 + 1, ⟨by omega, he⟩, by omega, ?_⟩
     ((repeat' (first | exact trivial | exact leW_refl _ | refine And.intro ?_ ?_)))
    ·rw [decide_eq_false hcm, Bool.false_and] at he
     have hg2 : decide (cmpL a b ≥ 0) = true := decide_eq_true (by omega)
     (repeat' ((conv => whnf); first | refine NBr.pos (by assumption) ?_ | refine NCall.eq (hC) (by first | rfl | (simp only [AV.gives, AV.give, un_bytesD]; first | done | rfl)) ?_ | refine NIdx.tab (fun _ => rfl) ha ?_ | refine NIdx.tab (fun _ => rfl) hb ?_ | (with_reducible refine NInt.i64 ?_) | refine NFact.go ⟨by decide +kernel, by kernel_rfl⟩ ?_ | (refine NBr.dec (fun hc hcP => ?_) (fun hc hcP => ?_) <;> try (exfalso; omega)))); (all_goals (conv => whnf))
     all_goals (rw [he]; (refine NEnd.eq ?_; (repeat' (first | exact leW_refl _ | refine And.intro ?_ ?_ | exact rfl))))
  ·obtain rfl : i = ps.length := by omega
   rw [ord_short (ps := ps.drop (ps.length - 1)) (by simp; omega)] at he
   (repeat' ((conv => whnf); (refine NBr.dec (fun hc hcP => ?_) (fun hc hcP => ?_) <;> try (exfalso; omega)))); (all_goals (conv => whnf))
   all_goals (rw [he]; (refine NEnd.eq ?_; (repeat' (first | exact leW_refl _ | refine And.intro ?_ ?_ | exact rfl))))
end Go.Proofs.YtblabcopgeobgaaGreatDoor

namespace Go.Proofs.YtblabcopgeobgaaGreatDoor
open Go.RowKit
set_option maxRecDepth 100000 in
set_option maxHeartbeats 8000000 in
theorem rOrdered_any (ps : List (List UInt8)) (hn : ps.length ≤ 1000000000) (hl : ∀ p ∈ ps, p.length ≤ 1000000000) : ACalls Tryz.prog 57 [.d (partsD ps)] (fun r => r = bv (ordB ps)) := by
 have hcv : ∀ a b : List UInt8, cmpL a b = -1 ∨ cmpL a b = 0 ∨ cmpL a b = 1 := by
  intro a
  induction a with
  | nil => intro b; cases b <;> simp [cmpL]
  | cons x r ih =>
    intro b
    cases b with
    | nil => simp [cmpL]
    | cons y s =>
      rw [cmpL]
      by_cases h1 : x.toNat < y.toNat
      ·rw [if_pos h1]; simp
      ·rw [if_neg h1]
       by_cases h2 : y.toNat < x.toNat
       ·rw [if_pos h2]; simp
       ·rw [if_neg h2]; exact ih s
 refine acalls_vc 21 _ tabOk mixed Tryz.func57 rfl (by kernel_rfl) rfl rfl rfl rfl fun W0 fp0 z0 => ?_
 (all_goals (conv => whnf))
 refine NLoop.go (fun i : Nat => i ≤ ps.length + 1 ∧ ordB ps = ordB (ps.drop i)) (fun i => ps.length + 1 - i) (fun i => ⟨[(0, .d (partsD ps)), (2, bv false), (3, iv (i + 1 : Nat))], [], []⟩) 0 ⟨by omega, rfl⟩ (by ((repeat' (first | exact trivial | exact leW_refl _ | refine And.intro ?_ ?_)))) ?_
 ·rintro i ⟨hi, he⟩
  by_cases hik : i + 1 < ps.length
  ·obtain ⟨a, ha⟩ : ∃ p, ps[i]? = some p := ⟨_, List.getElem?_eq_getElem (by omega)⟩
   obtain ⟨b, hb⟩ : ∃ p, ps[i + 1]? = some p := ⟨_, List.getElem?_eq_getElem hik⟩
   have hC := rCmp_any a b (hl a (List.mem_of_getElem? ha)) (hl b (List.mem_of_getElem? hb))
   rw [ord_step ha hb] at he
   have hv := hcv a b
   by_cases hcm : cmpL a b < 0
   ·rw [decide_eq_true hcm, Bool.true_and] at he
    (repeat' ((conv => whnf); first | refine NCall.eq (hC) (by first | rfl | (simp only [AV.gives, AV.give, un_bytesD]; first | done | rfl)) ?_ | refine NIdx.tab (fun _ => rfl) ha ?_ | refine NIdx.tab (fun _ => rfl) hb ?_ | (with_reducible refine NInt.i64 ?_) | refine NFact.go ⟨by decide +kernel, by kernel_rfl⟩ ?_ | (refine NBr.dec (fun hc hcP => ?_) (fun hc hcP => ?_) <;> try (exfalso; omega)) | (refine NBr.bne (fun hc hcP => ?_) (fun hc hcP => ?_) <;> try (exfalso; omega)))); (all_goals (conv => whnf))
    refine ⟨i + 1, ⟨by omega, he⟩, by omega, ?_⟩
    ((repeat' (first | exact trivial | exact leW_refl _ | refine And.intro ?_ ?_)))
   ·rw [decide_eq_false hcm, Bool.false_and] at he
    (repeat' ((conv => whnf); first | refine NCall.eq (hC) (by first | rfl | (simp only [AV.gives, AV.give, un_bytesD]; first | done | rfl)) ?_ | refine NIdx.tab (fun _ => rfl) ha ?_ | refine NIdx.tab (fun _ => rfl) hb ?_ | (with_reducible refine NInt.i64 ?_) | refine NFact.go ⟨by decide +kernel, by kernel_rfl⟩ ?_ | (refine NBr.dec (fun hc hcP => ?_) (fun hc hcP => ?_) <;> try (exfalso; omega)) | (refine NBr.bne (fun hc hcP => ?_) (fun hc hcP => ?_) <;> try (exfalso; omega)))); (all_goals (conv => whnf))
    all_goals (rw [he]; (refine NEnd.eq ?_; (repeat' (first | exact leW_refl _ | refine And.intro ?_ ?_ | exact rfl))))
  ·rw [ord_short (ps := ps.drop i) (by simp; omega)] at he
   (repeat' ((conv => whnf); (refine NBr.dec (fun hc hcP => ?_) (fun hc hcP => ?_) <;> try (exfalso; omega)))); (all_goals (conv => whnf))
   all_goals (rw [he]; (refine NEnd.eq ?_; (repeat' (first | exact leW_refl _ | refine And.intro ?_ ?_ | exact rfl))))
set_option maxRecDepth 100000 in
set_option maxHeartbeats 8000000 in
theorem rPutP_any (x : UInt8) (ps : List (List UInt8)) (hn : ps.length ≤ 1000000000) (hl : ps.flatten.length ≤ 900000000) : ACalls Tryz.prog 54 [cv x.toNat, .d (partsD ps)] (fun r => r = ownB 0 5 (putS x ps.flatten)) := by
 have hP := rPut_any x ps.flatten hl
 refine acalls_vc 22 _ tabOk mixed Tryz.func54 rfl (by kernel_rfl) rfl rfl rfl rfl fun W0 fp0 z0 => ?_
 (all_goals (conv => whnf))
 refine NLoop.goA [.s 5 1 5] (fun i : Nat => i ≤ ps.length) (fun i => ps.length - i) (fun i => ⟨[(0, cv x.toNat), (1, .d (partsD ps)), (4, nilA), (5, ownB 5 5 (ps.take i).flatten), (6, iv i)], [], [(5, ((ps.take i).flatten.length, 1, 5))]⟩) 0 (by omega) (by ((repeat' (first | exact trivial | exact leW_refl _ | refine And.intro ?_ ?_ | exact rfl)))) ?_
 ·intro i hi
  by_cases hik : i < ps.length
  ·obtain ⟨p, hp⟩ : ∃ p, ps[i]? = some p := ⟨_, List.getElem?_eq_getElem hik⟩
   have hs := flat_snoc hp
   have hle := flat_le ps (i + 1)
   have hss : (ps.take (i + 1)).flatten.length = (ps.take i).flatten.length + p.length := by rw [hs, List.length_append]
   (repeat' ((conv => whnf); first | refine NIdx.tab (fun _ => rfl) hp ?_ | (with_reducible refine NInt.i64 ?_) | (with_reducible refine NApp.bytes ?_) | (refine NBr.dec (fun hc hcP => ?_) (fun hc hcP => ?_) <;> try (exfalso; omega)))); (all_goals (conv => whnf))
   refine ⟨i + 1, by omega, by omega, ?_⟩
   rw [hs]
   ((repeat' (first | exact trivial | exact leW_refl _ | refine And.intro ?_ ?_ | exact rfl)))
  ·obtain rfl : i = ps.length := by omega
   rw [List.take_length]
   (repeat' ((conv => whnf); first | refine NCall.eq (hP) (by first | rfl | (simp only [AV.gives, AV.give, D.un, uns_bytesL]; first | done | rfl)) ?_ | (refine NBr.dec (fun hc hcP => ?_) (fun hc hcP => ?_) <;> try (exfalso; omega)))); (all_goals (conv => whnf))
   all_goals (refine NEnd.eq ?_; (repeat' (first | refine And.intro ?_ ?_ | exact rfl)))
   all_goals rfl
end Go.Proofs.YtblabcopgeobgaaGreatDoor

namespace Go.Proofs.YtblabcopgeobgaaGreatDoor
open Go.RowKit
def elO (c : List UInt8) (x : El) : List UInt8 := (c.drop x.at').take (x.stop - x.at')
def partsT (ps : List (List UInt8)) : D := tabD true 1 partC ps
theorem un_partsT (ps : List (List UInt8)) : (partsT ps).un = partsD ps := un_tab (fun x => by simp only [partC, D.uns, un_bytesD]) true 1 ps
end Go.Proofs.YtblabcopgeobgaaGreatDoor
