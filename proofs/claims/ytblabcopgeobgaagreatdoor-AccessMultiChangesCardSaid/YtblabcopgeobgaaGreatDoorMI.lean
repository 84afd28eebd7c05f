/- MI: the texts OidP Pre Str Oid Oid2 OidE OidR OidS Tree Tree2 Tree3 Tree4 T T2 T3 Ref10 Pl, one behind the other. No condition but what each lemma says. -/
import Derived.Lib.ItoaNum
import Derived.Lib.SplitLaws
import Derived.Lib.ParseIntBCases
import Derived.Test.YtblabcopgeobgaaGreatDoorMC
import Derived.Test.YtblabcopgeobgaaGreatDoorME
import Derived.Test.YtblabcopgeobgaaGreatDoorMD
import Derived.Lib.ItoaMem
namespace Go.Proofs.YtblabcopgeobgaaGreatDoor
open Go
def dots : List UInt8 → List (List UInt8)
 | [] => [[]]
 | c :: r => if c = 46 then [] :: dots r else match dots r with
   | p :: ps => (c :: p) :: ps
   | [] => [[c]]
def dotsA (cur : List UInt8) : List UInt8 → List (List UInt8)
 | [] => [cur]
 | c :: r => if c = 46 then cur :: dotsA [] r else dotsA (cur ++ [c]) r
theorem dots_ne : ∀ s, ∃ p ps, dots s = p :: ps
 | [] => ⟨_, _, rfl⟩
 | c :: r => by
   obtain ⟨p, ps, h⟩ := dots_ne r
   unfold dots
   by_cases hc : c = 46
   ·rw [if_pos hc]; exact ⟨_, _, rfl⟩
   ·rw [if_neg hc, h]; exact ⟨_, _, rfl⟩
theorem dotsA_eq : ∀ (s cur : List UInt8) {p ps}, dots s = p :: ps → dotsA cur s = (cur ++ p) :: ps
 | [], cur, p, ps, h => by
   rw [dots] at h; cases h; rw [dotsA, List.append_nil]
 | c :: r, cur, p, ps, h => by
   obtain ⟨q, qs, h'⟩ := dots_ne r
   rw [dots] at h
   rw [dotsA]
   by_cases hc : c = 46
   ·rw [if_pos hc] at h ⊢
    cases h
    rw [dotsA_eq r [] h', List.append_nil, List.nil_append, h']
   ·rw [if_neg hc, h'] at h
    rw [if_neg hc, dotsA_eq r _ h']
    cases h
    simp
theorem dotsA_nil (s : List UInt8) : dotsA [] s = dots s := by
 obtain ⟨p, ps, h⟩ := dots_ne s
 rw [dotsA_eq s [] h, h]; rfl
open Lib in
theorem index_dot_ne {c : UInt8} {r : List UInt8} (hc : c ≠ 46) : index (c :: r) [46] = if index r [46] == -1 then -1 else index r [46] + 1 := by
 rw [index]; simp [List.isPrefixOf, Ne.symm hc]
open Lib in
theorem splitK_ne {c : UInt8} (hc : c ≠ 46) : ∀ (k : Nat) (r : List UInt8) {p ps}, splitK [46] 0 k r = p :: ps → splitK [46] 0 k (c :: r) = (c :: p) :: ps
 | 0, r, p, ps, h => by rw [splitK] at h ⊢; cases h; rfl
 | k + 1, r, p, ps, h => by
   have hx := index_dot_ne (r := r) hc
   have hg := index_ge r [46]
   rw [splitK] at h ⊢
   by_cases hm : index r [46] = -1
   ·rw [if_pos (beq_iff_eq.2 hm)] at h
    rw [if_pos (beq_iff_eq.2 hm)] at hx
    rw [if_pos (beq_iff_eq.2 hx)]
    cases h; rfl
   ·rw [if_neg (fun e => hm (beq_iff_eq.1 e))] at h hx
    rw [if_neg (by rw [beq_iff_eq]; omega), hx]
    cases h
    obtain ⟨j, hj⟩ : ∃ j : Nat, index r [46] = j := ⟨(index r [46]).toNat, by omega⟩
    rw [hj]
    rw [show ((j : Int) + 1).toNat = j + 1 by omega, show (j : Int).toNat = j by omega]
    simp
open Lib in
theorem split_dots : ∀ s : List UInt8, splitK [46] 0 (s.count 46) s = dots s
 | [] => rfl
 | c :: r => by
   obtain ⟨p, ps, h⟩ := dots_ne r
   have ih := split_dots r
   rw [dots]
   by_cases hc : c = 46
   ·subst hc
    rw [if_pos rfl, List.count_cons_self, splitK]
    have hx : index (46 :: r) [46] = 0 := by rw [index]; simp [List.isPrefixOf]
    rw [if_neg (by rw [hx]; decide), hx, ← ih]
    simp
   ·rw [if_neg hc, h, List.count_cons_of_ne (fun e => hc e), splitK_ne hc _ _ (ih.trans h)]
open Lib in
theorem splitB_dots (s : List UInt8) : splitB ⟨#[46]⟩ 0 (countB ⟨⟨s⟩⟩ ⟨#[46]⟩) ⟨⟨s⟩⟩ = (dots s).map fun p => ⟨⟨p⟩⟩ := by
 have h1 := splitB_data ⟨#[46]⟩ 0 (countB ⟨⟨s⟩⟩ ⟨#[46]⟩) ⟨⟨s⟩⟩
 have h2 : countB ⟨⟨s⟩⟩ ⟨#[46]⟩ = s.count 46 := count_one 46 s
 rw [h2] at h1 ⊢
 rw [show splitK ((⟨#[46]⟩ : ByteArray).data.toList) 0 (s.count 46) ((⟨⟨s⟩⟩ : ByteArray).data.toList) = dots s from split_dots s] at h1
 rw [← h1, List.map_map]
 conv => lhs; rw [← List.map_id (splitB ⟨#[46]⟩ 0 (s.count 46) ⟨⟨s⟩⟩)]
 exact List.map_congr_left fun x _ => rfl
def arcS (l : List UInt8) : Option Nat := match Lib.parseUintB 32 l with
 | .ok u => if Lib.decDigits u = l then some u else none
 | _ => none
theorem dg_toNat {u : Nat} (h : u < 10) : (UInt8.ofNat (48 + u)).toNat = 48 + u := by rw [UInt8.toNat_ofNat']; omega
theorem dec_all : ∀ (n : Nat) (b : UInt8), b ∈ Lib.decDigits n → 48 ≤ b.toNat ∧ b.toNat ≤ 57 := by
 intro n
 induction n using Nat.strongRecOn with
 | _ n ih =>
   intro b hb
   rw [Lib.decDigits] at hb
   by_cases h : n < 10
   ·rw [dif_pos h, List.mem_singleton] at hb
    subst hb; rw [dg_toNat h]; omega
   ·rw [dif_neg h, List.mem_append, List.mem_singleton] at hb
    rcases hb with hb | hb
    ·exact ih (n / 10) (by omega) b hb
    ·subst hb; rw [dg_toNat (by omega)]; omega
def numS (acc : Nat) (l : List UInt8) : Nat := l.foldl (fun a c => a * 10 + (c.toNat - 48)) acc
theorem numS_cons (acc : Nat) (c : UInt8) (r : List UInt8) : numS acc (c :: r) = numS (acc * 10 + (c.toNat - 48)) r := by unfold numS; rw [List.foldl_cons]
theorem numS_nil (acc : Nat) : numS acc [] = acc := rfl
theorem numS_append (l m : List UInt8) (acc : Nat) : numS acc (l ++ m) = numS (numS acc l) m := by unfold numS; exact List.foldl_append
theorem numS_dec (n : Nat) : numS 0 (Lib.decDigits n) = n := by
 induction n using Nat.strongRecOn with
 | _ n ih =>
   rw [Lib.decDigits]
   by_cases h : n < 10
   ·rw [dif_pos h, numS_cons, numS_nil, dg_toNat h]; omega
   ·rw [dif_neg h, numS_append, ih (n / 10) (by omega), numS_cons, numS_nil, dg_toNat (by omega)]; omega
theorem numS_ge : ∀ (l : List UInt8) (acc : Nat), acc ≤ numS acc l
 | [], _ => Nat.le_refl _
 | c :: r, acc => by
   have := numS_ge r (acc * 10 + (c.toNat - 48))
   rw [numS_cons]; omega
open Lib in
theorem parseM_ok : ∀ (l : List UInt8) (acc : Nat), (∀ b ∈ l, 48 ≤ b.toNat ∧ b.toNat ≤ 57) → numS acc l ≤ 4294967295 → parseUintM 4294967295 acc l = .ok (numS acc l)
 | [], _, _, _ => rfl
 | c :: r, acc, h1, h2 => by
   have hc := h1 c (by simp)
   have hg := numS_ge r (acc * 10 + (c.toNat - 48))
   rw [numS_cons] at h2 ⊢
   rw [parseUintM, if_pos hc, if_neg (by omega), if_neg (by omega)]
   exact parseM_ok r _ (fun b hb => h1 b (by simp [hb])) h2
theorem dec_ne (n : Nat) : Lib.decDigits n ≠ [] := by
 intro h
 have := Lib.decDigits_length n
 have h2 := Lib.nDigits_pos n
 rw [h] at this; simp at this; omega
theorem arcS_dec {n : Nat} (h : n ≤ 4294967295) : arcS (Lib.decDigits n) = some n := by
 have h1 := parseM_ok (Lib.decDigits n) 0 (dec_all n) (by rw [numS_dec]; exact h)
 rw [numS_dec] at h1
 unfold arcS Lib.parseUintB
 rw [if_neg (dec_ne n), show 2 ^ 32 - 1 = 4294967295 from rfl, h1]
 simp
theorem arcS_some {l : List UInt8} {n : Nat} (h : arcS l = some n) : n ≤ 4294967295 ∧ Lib.decDigits n = l := by
 unfold arcS at h
 split at h
 ·rename_i u hu
  split at h
  ·rename_i he
   cases h
   exact ⟨by have := Lib.parseUintB_le hu; omega, he⟩
  ·cases h
 ·cases h
def rightB : List Nat → Bool
 | x :: y :: _ => decide (x ≤ 2) && (if x < 2 then decide (y < 40) else decide (y ≤ 4294967215))
 | _ => false
def arcsL (ps : List (List UInt8)) : Option (List Nat) := match ps with
 | [] => some []
 | p :: r => match arcS p, arcsL r with
   | some n, some l => some (n :: l)
   | _, _ => none
def arcsS (s : List UInt8) : Option (List Nat) := match arcsL (dots s) with
 | some a => if rightB a then some a else none
 | none => none
def textL : List Nat → List UInt8
 | [] => []
 | [n] => Lib.decDigits n
 | n :: m :: r => Lib.decDigits n ++ 46 :: textL (m :: r)
theorem dots_plain : ∀ (p : List UInt8), (46 : UInt8) ∉ p → dots p = [p]
 | [], _ => rfl
 | c :: r, h => by
   have h' : c ≠ 46 := fun e => h (by simp [e])
   rw [dots, if_neg h', dots_plain r (fun e => h (by simp [e]))]
theorem dots_append : ∀ (p q : List UInt8), (46 : UInt8) ∉ p → dots (p ++ 46 :: q) = p :: dots q
 | [], q, _ => by rw [List.nil_append, dots, if_pos rfl]
 | c :: r, q, h => by
   have h' : c ≠ 46 := fun e => h (by simp [e])
   rw [List.cons_append, dots, if_neg h', dots_append r q (fun e => h (by simp [e]))]
theorem dec_dot (n : Nat) : (46 : UInt8) ∉ Lib.decDigits n := fun h => by
 have := dec_all n _ h
 simp at this
theorem dots_text : ∀ (a : List Nat), a ≠ [] → dots (textL a) = a.map Lib.decDigits
 | [], h => absurd rfl h
 | [n], _ => by rw [textL, dots_plain _ (dec_dot n)]; rfl
 | n :: m :: r, _ => by rw [textL, dots_append _ _ (dec_dot n), dots_text (m :: r) (by simp)]; rfl
theorem arcsL_dec : ∀ (a : List Nat), (∀ n ∈ a, n ≤ 4294967295) → arcsL (a.map Lib.decDigits) = some a
 | [], _ => rfl
 | n :: r, h => by
   rw [List.map_cons, arcsL, arcS_dec (h n (by simp)), arcsL_dec r (fun m hm => h m (by simp [hm]))]
theorem rightB_ne {a : List Nat} (h : rightB a = true) : ∃ x y r, a = x :: y :: r ∧ x ≤ 2 ∧ (x < 2 → y < 40) ∧ y ≤ 4294967215 := by
 match a, h with
 | x :: y :: r, h =>
   rw [rightB, Bool.and_eq_true, decide_eq_true_eq] at h
   refine ⟨x, y, r, rfl, h.1, fun hx => ?_, ?_⟩
   ·have := h.2; rw [if_pos hx, decide_eq_true_eq] at this; exact this
   ·have := h.2
    by_cases hx : x < 2
    ·rw [if_pos hx, decide_eq_true_eq] at this; omega
    ·rw [if_neg hx, decide_eq_true_eq] at this; exact this
theorem arcsS_text {a : List Nat} (h : rightB a = true) (hb : ∀ n ∈ a, n ≤ 4294967295) : arcsS (textL a) = some a := by
 obtain ⟨x, y, r, rfl, -⟩ := rightB_ne h
 rw [arcsS, dots_text _ (by simp), arcsL_dec _ hb]
 exact if_pos h
theorem arcsL_some : ∀ {ps : List (List UInt8)} {a : List Nat}, arcsL ps = some a → ps = a.map Lib.decDigits ∧ ∀ n ∈ a, n ≤ 4294967295
 | [], a, h => by rw [arcsL] at h; cases h; simp
 | p :: r, a, h => by
   rw [arcsL] at h
   split at h
   ·rename_i n l h1 h2
    cases h
    obtain ⟨k1, k2⟩ := arcS_some h1
    obtain ⟨k3, k4⟩ := arcsL_some h2
    refine ⟨by rw [List.map_cons, k2, ← k3], fun m hm => ?_⟩
    rcases List.mem_cons.1 hm with rfl | hm
    ·exact k1
    ·exact k4 m hm
   ·cases h
theorem dots_join : ∀ (s : List UInt8) (a : List Nat), dots s = a.map Lib.decDigits → textL a = s := by
 intro s
 have gen : ∀ (s : List UInt8) (p : List UInt8) (ps : List (List UInt8)), dots s = p :: ps → s = p ++ (ps.flatMap fun q => 46 :: q) := by
  intro s
  induction s with
  | nil => intro p ps h; rw [dots] at h; cases h; rfl
  | cons c r ih =>
    intro p ps h
    obtain ⟨q, qs, h'⟩ := dots_ne r
    have h2 := ih q qs h'
    rw [dots] at h
    by_cases hc : c = 46
    ·rw [if_pos hc, h'] at h
     cases h
     rw [List.nil_append, List.flatMap_cons, List.cons_append, ← h2, hc]
    ·rw [if_neg hc, h'] at h
     cases h
     rw [List.cons_append, ← h2]
 intro a h
 have tl : ∀ (m : Nat) (r : List Nat), textL (m :: r) = Lib.decDigits m ++ ((r.map Lib.decDigits).flatMap fun q => 46 :: q) := by
  intro m r
  induction r generalizing m with
  | nil => rw [textL]; simp
  | cons k r ih => rw [textL, ih k]; simp
 match a, h with
 | [], h => obtain ⟨q, qs, h'⟩ := dots_ne s; rw [h'] at h; cases h
 | m :: r, h => rw [tl, ← gen s _ _ h]
theorem arcsS_some {s : List UInt8} {a : List Nat} (h : arcsS s = some a) : rightB a = true ∧ (∀ n ∈ a, n ≤ 4294967295) ∧ textL a = s := by
 unfold arcsS at h
 split at h
 ·rename_i a' h1
  split at h
  ·rename_i h2
   cases h
   obtain ⟨k1, k2⟩ := arcsL_some h1
   exact ⟨h2, k2, dots_join s a k1⟩
  ·cases h
 ·cases h
def b128 (last : Bool) (n : Nat) : List UInt8 :=
 if h : n < 128 then [UInt8.ofNat (n % 128 + if last then 0 else 128)] else b128 false (n / 128) ++ [UInt8.ofNat (n % 128 + if last then 0 else 128)]
termination_by n
decreasing_by omega
theorem b128_small (l : Bool) {n : Nat} (h : n < 128) : b128 l n = [UInt8.ofNat (n % 128 + if l then 0 else 128)] := by rw [b128, dif_pos h]
theorem b128_big (l : Bool) {n : Nat} (h : ¬ n < 128) : b128 l n = b128 false (n / 128) ++ [UInt8.ofNat (n % 128 + if l then 0 else 128)] := by rw [b128, dif_neg h]
def encO : List Nat → List UInt8
 | x :: y :: r => b128 true (40 * x + y) ++ r.flatMap (b128 true)
 | _ => []
def numsS : Bool → Nat → List UInt8 → Option (List Nat)
 | b, _, [] => if b then none else some []
 | b, n, x :: r => if b = false ∧ x = 128 then none else if n * 128 + x.toNat % 128 > 4294967295 then none else if x.toNat < 128 then (match numsS false 0 r with
   | some l => some ((n * 128 + x.toNat % 128) :: l)
   | none => none) else numsS true (n * 128 + x.toNat % 128) r
def numsR : Nat → List UInt8 → Option (List Nat)
 | _, [] => some []
 | n, x :: r => if n * 128 + x.toNat % 128 > 4294967295 then none else if x.toNat < 128 then (match numsR 0 r with
   | some l => some ((n * 128 + x.toNat % 128) :: l)
   | none => none) else numsR (n * 128 + x.toNat % 128) r
def unroot : List Nat → List Nat
 | [] => []
 | n :: r => min (n / 40) 2 :: (n - 40 * min (n / 40) 2) :: r
theorem unroot_right {l : List Nat} (hl : l ≠ []) (hb : ∀ n ∈ l, n ≤ 4294967295) : rightB (unroot l) = true ∧ (∀ n ∈ unroot l, n ≤ 4294967295) ∧ encO (unroot l) = l.flatMap (b128 true) := by
 match l, hl with
 | n :: r, _ =>
   have hn := hb n (by simp)
   refine ⟨?_, ?_, ?_⟩
   ·rw [unroot, rightB, Bool.and_eq_true, decide_eq_true_eq]
    refine ⟨by omega, ?_⟩
    split <;> rw [decide_eq_true_eq] <;> omega
   ·intro m hm
    rw [unroot, List.mem_cons, List.mem_cons] at hm
    rcases hm with rfl | rfl | hm
    ·omega
    ·omega
    ·exact hb m (by simp [hm])
   ·rw [unroot, encO, show 40 * min (n / 40) 2 + (n - 40 * min (n / 40) 2) = n by omega]; rfl
def decS (c : List UInt8) : Option (List Nat) := match numsS false 0 c with
 | some (n :: r) => some (unroot (n :: r))
 | _ => none
theorem x_low {n : Nat} : (UInt8.ofNat (n % 128 + if true = true then 0 else 128)).toNat = n % 128 := by
 rw [if_pos rfl, UInt8.toNat_ofNat']; omega
theorem x_high {n : Nat} : (UInt8.ofNat (n % 128 + if false = true then 0 else 128)).toNat = n % 128 + 128 := by
 rw [if_neg (by simp), UInt8.toNat_ofNat']; omega
theorem numsS_high : ∀ (n : Nat) (r : List UInt8), 1 ≤ n → n ≤ 4294967295 → numsS false 0 (b128 false n ++ r) = numsS true n r := by
 intro n
 induction n using Nat.strongRecOn with
 | _ n ih =>
   intro r h1 h2
   have hx := x_high (n := n)
   by_cases h : n < 128
   ·rw [b128_small _ h]
    generalize UInt8.ofNat (n % 128 + if false = true then 0 else 128) = x at hx
    rw [List.singleton_append, numsS, if_neg (by rintro ⟨-, rfl⟩; simp at hx; omega), if_neg (by omega), if_neg (by omega)]
    rw [show 0 * 128 + x.toNat % 128 = n by omega]
   ·rw [b128_big _ h, List.append_assoc, List.singleton_append, ih (n / 128) (by omega) _ (by omega) (by omega)]
    generalize UInt8.ofNat (n % 128 + if false = true then 0 else 128) = x at hx
    rw [numsS, if_neg (by simp), if_neg (by omega), if_neg (by omega)]
    rw [show n / 128 * 128 + x.toNat % 128 = n by omega]
theorem numsS_one (n : Nat) (r : List UInt8) (h2 : n ≤ 4294967295) : numsS false 0 (b128 true n ++ r) = (numsS false 0 r).map (n :: ·) := by
 have hx := x_low (n := n)
 by_cases h : n < 128
 ·rw [b128_small _ h]
  generalize UInt8.ofNat (n % 128 + if true = true then 0 else 128) = x at hx
  rw [List.singleton_append, numsS, if_neg (by rintro ⟨-, rfl⟩; simp at hx; omega), if_neg (by omega), if_pos (by omega)]
  rw [show 0 * 128 + x.toNat % 128 = n by omega]
  cases numsS false 0 r <;> rfl
 ·rw [b128_big _ h, List.append_assoc, List.singleton_append, numsS_high _ _ (by omega) (by omega)]
  generalize UInt8.ofNat (n % 128 + if true = true then 0 else 128) = x at hx
  rw [numsS, if_neg (by simp), if_neg (by omega), if_pos (by omega)]
  rw [show n / 128 * 128 + x.toNat % 128 = n by omega]
  cases numsS false 0 r <;> rfl
theorem numsS_all : ∀ (l : List Nat), (∀ n ∈ l, n ≤ 4294967295) → numsS false 0 (l.flatMap (b128 true)) = some l
 | [], _ => rfl
 | n :: r, h => by
   rw [List.flatMap_cons, numsS_one n _ (h n (by simp)), numsS_all r (fun m hm => h m (by simp [hm]))]; rfl
theorem numsS_some : ∀ (c : List UInt8) (b : Bool) (n : Nat) (l : List Nat), n ≤ 4294967295 → (b = true → 1 ≤ n) → (b = false → n = 0) → numsS b n c = some l → (if b then b128 false n else []) ++ c = l.flatMap (b128 true) ∧ ∀ m ∈ l, m ≤ 4294967295
 | [], b, n, l, _, _, _, h => by
   cases b
   ·rw [numsS] at h; cases h; simp
   ·rw [numsS] at h; cases h
 | x :: r, b, n, l, hn, hb, hb0, h => by
   rw [numsS] at h
   have hxl := x.toNat_lt
   by_cases h1 : b = false ∧ x = 128
   ·rw [if_pos h1] at h; cases h
   rw [if_neg h1] at h
   by_cases h2 : n * 128 + x.toNat % 128 > 4294967295
   ·rw [if_pos h2] at h; cases h
   rw [if_neg h2] at h
   have hx0 : b = false → x.toNat ≠ 128 := fun e e' => h1 ⟨e, by
    apply UInt8.toNat_inj.1; simpa using e'⟩
   have e1 : ∀ last : Bool, (if last then x.toNat < 128 else 128 ≤ x.toNat) → b128 last (n * 128 + x.toNat % 128) = (if b then b128 false n else []) ++ [x] := by
    intro last hlast
    have hx : UInt8.ofNat ((n * 128 + x.toNat % 128) % 128 + if last = true then 0 else 128) = x := by
     apply UInt8.toNat_inj.1
     rw [UInt8.toNat_ofNat']
     cases last <;> simp at hlast ⊢ <;> omega
    cases b
    ·have := hb0 rfl
     subst this
     rw [b128_small _ (by omega), hx]; rfl
    ·have := hb rfl
     rw [b128_big _ (by omega), hx, show (n * 128 + x.toNat % 128) / 128 = n by omega]; rfl
   by_cases h3 : x.toNat < 128
   ·rw [if_pos h3] at h
    split at h
    ·rename_i l' hl'
     cases h
     obtain ⟨k1, k2⟩ := numsS_some r false 0 l' (by omega) (by simp) (fun _ => rfl) hl'
     rw [List.flatMap_cons, ← k1, e1 true (by simpa using h3)]
     refine ⟨by simp, fun m hm => ?_⟩
     rcases List.mem_cons.1 hm with rfl | hm
     ·omega
     ·exact k2 m hm
    ·cases h
   ·rw [if_neg h3] at h
    have hm : 1 ≤ n * 128 + x.toNat % 128 := by
     cases b
     ·have := hx0 rfl; omega
     ·have := hb rfl; omega
    obtain ⟨k1, k2⟩ := numsS_some r true _ l (by omega) (fun _ => hm) (by simp) h
    refine ⟨?_, k2⟩
    rw [← k1, if_pos rfl, e1 false (by simpa using h3)]
    simp
theorem numsR_of : ∀ (c : List UInt8) (b : Bool) (n : Nat) (l : List Nat), numsS b n c = some l → numsR n c = some l
 | [], b, n, l, h => by
   cases b
   ·rw [numsS] at h; cases h; rfl
   ·rw [numsS] at h; cases h
 | x :: r, b, n, l, h => by
   rw [numsS] at h
   rw [numsR]
   by_cases h1 : b = false ∧ x = 128
   ·rw [if_pos h1] at h; cases h
   rw [if_neg h1] at h
   by_cases h2 : n * 128 + x.toNat % 128 > 4294967295
   ·rw [if_pos h2] at h; cases h
   rw [if_neg h2] at h ⊢
   by_cases h3 : x.toNat < 128
   ·rw [if_pos h3] at h ⊢
    split at h
    ·rename_i l' hl'
     rw [numsR_of r false 0 l' hl']; exact h
    ·cases h
   ·rw [if_neg h3] at h ⊢
    exact numsR_of r true _ l h
theorem numsR_le : ∀ (c : List UInt8) (n : Nat) (l : List Nat), numsR n c = some l → ∀ m ∈ l, m ≤ 4294967295
 | [], n, l, h => by rw [numsR] at h; cases h; simp
 | x :: r, n, l, h => by
   rw [numsR] at h
   by_cases h2 : n * 128 + x.toNat % 128 > 4294967295
   ·rw [if_pos h2] at h; cases h
   rw [if_neg h2] at h
   by_cases h3 : x.toNat < 128
   ·rw [if_pos h3] at h
    split at h
    ·rename_i l' hl'
     cases h
     intro m hm
     rcases List.mem_cons.1 hm with rfl | hm
     ·omega
     ·exact numsR_le r 0 l' hl' m hm
    ·cases h
   ·rw [if_neg h3] at h
    exact numsR_le r _ l h
theorem decS_some {c : List UInt8} {a : List Nat} (h : decS c = some a) : rightB a = true ∧ (∀ n ∈ a, n ≤ 4294967295) ∧ encO a = c := by
 unfold decS at h
 split at h
 ·rename_i n r h1
  cases h
  obtain ⟨k1, k2⟩ := numsS_some c false 0 _ (by omega) (by simp) (fun _ => rfl) h1
  obtain ⟨k3, k4, k5⟩ := unroot_right (l := n :: r) (by simp) k2
  exact ⟨k3, k4, by rw [k5, ← k1]; rfl⟩
 ·cases h
theorem unroot_of {x y : Nat} {r : List Nat} (h : rightB (x :: y :: r) = true) : unroot ((40 * x + y) :: r) = x :: y :: r := by
 obtain ⟨x', y', r', e, h1, h2, h3⟩ := rightB_ne h
 cases e
 rw [unroot]
 have : min ((40 * x + y) / 40) 2 = x := by
  by_cases hx : x < 2
  ·have := h2 hx; omega
  ·omega
 rw [this, show 40 * x + y - 40 * x = y by omega]
theorem decS_enc {a : List Nat} (h : rightB a = true) (hb : ∀ n ∈ a, n ≤ 4294967295) : decS (encO a) = some a := by
 obtain ⟨x, y, r, rfl, h1, h2, h3⟩ := rightB_ne h
 have := numsS_all ((40 * x + y) :: r) (fun m hm => by
  rcases List.mem_cons.1 hm with rfl | hm
  ·by_cases hx : x < 2
   ·have := h2 hx; omega
   ·omega
  ·exact hb m (by simp [hm]))
 rw [List.flatMap_cons] at this
 rw [encO, decS, this]
 simp only [unroot_of h]
def oidE (s : List UInt8) : List UInt8 := match arcsS s with
 | some a => encO a
 | none => []
def oidC (s : List UInt8) : Nat := match arcsS s with
 | some _ => 0
 | none => 8
def odT (c : List UInt8) : List UInt8 := match decS c with
 | some a => textL a
 | none => []
def odC (c : List UInt8) : Nat := match decS c with
 | some _ => 0
 | none => 6
def oidV (s : List UInt8) : Bool := (arcsS s).isSome
theorem oidV_code (s : List UInt8) : oidV s = true ↔ oidC s = 0 := by
 unfold oidV oidC; cases arcsS s <;> simp
theorem od_enc {s : List UInt8} (h : oidV s = true) : odT (oidE s) = s ∧ odC (oidE s) = 0 := by
 obtain ⟨a, ha⟩ := Option.isSome_iff_exists.1 h
 obtain ⟨k1, k2, k3⟩ := arcsS_some ha
 have := decS_enc k1 k2
 unfold odT odC oidE
 rw [ha]
 simp only [this]
 exact ⟨k3, trivial⟩
theorem od_dec {c : List UInt8} (h : odC c = 0) : oidV (odT c) = true ∧ oidE (odT c) = c := by
 unfold odC at h
 unfold odT oidV oidE
 cases hd : decS c with
 | none => rw [hd] at h; cases h
 | some a =>
   obtain ⟨k1, k2, k3⟩ := decS_some hd
   simp only [arcsS_text k1 k2]
   exact ⟨rfl, k3⟩
theorem decS_ref (c : List UInt8) : decS c = match numsR 0 c with
 | some (n :: r) => if encO (unroot (n :: r)) = c then some (unroot (n :: r)) else none
 | _ => none := by
 cases h : numsS false 0 c with
 | some l =>
   have h2 := numsR_of c false 0 l h
   rw [decS, h, h2]
   cases l with
   | nil => rfl
   | cons n r =>
     obtain ⟨k1, k2⟩ := numsS_some c false 0 _ (by omega) (by simp) (fun _ => rfl) h
     obtain ⟨k3, k4, k5⟩ := unroot_right (l := n :: r) (by simp) k2
     simp only
     rw [if_pos (by rw [k5, ← k1]; rfl)]
 | none =>
   have e : decS c = none := by rw [decS, h]
   rw [e]
   cases h2 : numsR 0 c with
   | none => rfl
   | some l =>
     cases l with
     | nil => rfl
     | cons n r =>
       obtain ⟨k3, k4, k5⟩ := unroot_right (l := n :: r) (by simp) (numsR_le c 0 _ h2)
       simp only
       rw [if_neg]
       intro h3
       have := decS_enc k3 k4
       rw [h3, e] at this
       cases this
end Go.Proofs.YtblabcopgeobgaaGreatDoor

namespace Go.Proofs.YtblabcopgeobgaaGreatDoor
open Go.RowKit
def takeC : Nat → Code → List Code
 | n + 1, .seq x y => x :: takeC n y
 | _, _ => []
def dropC : Nat → Code → Code
 | n + 1, .seq _ y => dropC n y
 | _, c => c
def seqs : List Code → Code → Code
 | [], c => c
 | x :: r, c => .seq x (seqs r c)
theorem seqs_cut : ∀ (n : Nat) (c : Code), seqs (takeC n c) (dropC n c) = c
 | 0, c => by cases c <;> rfl
 | n + 1, c => by
   cases c with
   | seq x y => show Code.seq x (seqs (takeC n y) (dropC n y)) = _; rw [seqs_cut n y]
   | _ => rfl
def ASeq (P : Program) (C : Cx) : List Code → (AS → Prop) → AS → Prop
 | [], K, σ => K σ
 | x :: r, K, σ => ACode P C x (nx (ASeq P C r K) (fun _ _ => False)) σ
theorem aseq_wp {P : Program} {C : Cx} {B : Code} {Q : Exit → Act → World → Prop} {K : AS → Prop} : ∀ {xs : List Code} {σ : AS} {a : Act} {w : World}, ASeq P C xs K σ → G C σ a w → (∀ σ' a' w', K σ' → G C σ' a' w' → B.wp P Q a' w') → (seqs xs B).wp P Q a w
 | [], σ, a, w, h, hG, k => k σ a w h hG
 | x :: r, σ, a, w, h, hG, k => wp_seq (wp_mono (h a w hG) fun e a' w' ⟨σ', h1, h2⟩ => by
     cases e with
     | normal => exact aseq_wp (xs := r) h1 h2 k
     | _ => exact h1.elim)
noncomputable def seqVC (P : Program) (C : Cx) (T : Tab) : List Code → KS → KS
 | [], K => K
 | x :: r, K => codeVC P C T x (seqVC P C T r K) (fun _ _ _ _ => False) (fun _ _ _ => False)
theorem seqVC_ok {P : Program} {C : Cx} {T : Tab} (hT : TabOk P T) (hm : P.follows .mixedOrders = true) : ∀ {xs : List Code} {K : KS} {tm : TM} {bx : BX} {tk : TK}, seqVC P C T xs K tm bx tk → ASeq P C xs (fun σ => K σ.tm σ.bx σ.tk) ⟨tm, bx, tk⟩
 | [], K, tm, bx, tk, h => h
 | x :: r, K, tm, bx, tk, h => acode_mono (code_ok hT hm x _ _ _ _ _ _ h) fun e σ he => by
     cases e with
     | normal => exact seqVC_ok (xs := r) hT hm he
     | exit id => exact False.elim he
     | ret => exact False.elim he
     | goto l => exact he.elim
     | panic c => exact he.elim
     | _ => first | exact he.elim | exact he
theorem GG.act {C : Cx} {bm : BM} {gt : Nat → Value} {fp : Nat → Nat → Prop} {σ σ' : AS} {a a' : Act} {w : World} (h : GG C bm gt fp σ a w) (hsz : a'.tmps.size = C.N) (hdf : a'.defers = []) (hb : σ'.bx = σ.bx) (hk : σ'.tk = σ.tk)
 (ht : ∀ t u, lk t σ'.tm = some u → ∃ v, C.val a' t = some v ∧ RA C.W.heap.size fp w bm gt u v) : GG C bm gt fp σ' a' w := by
 obtain ⟨tm, bx, tk⟩ := σ'
 simp only at hb hk
 subst hb hk
 exact { sz := hsz, nN := h.nN, gd := h.gd, za := h.za, zb := h.zb, zf := h.zf, ztk := h.ztk, df := hdf, tm := ht, bx := h.bx, bxi := h.bxi, tk := h.tk, tki := h.tki, tkb := h.tkb, fpb := h.fpb, fp0 := h.fp0, fpB := h.fpB, bel := h.bel }
def keepT (all : List AV) : List Nat → TM
 | [] => []
 | i :: r => match all[i]? with
   | some u => (i, u) :: keepT all r
   | none => keepT all r
def keptV (vs : List Value) (tm : TM) : List Nat → Prop
 | [] => True
 | i :: r => (∃ v, vs[i]? = some v ∧ lk i tm = some (.d (.v v))) ∧ keptV vs tm r
theorem lk_keepT {all : List AV} {t : Nat} {u : AV} : ∀ {l : List Nat}, lk t (keepT all l) = some u → t ∈ l ∧ all[t]? = some u
 | [], h => by cases h
 | i :: r, h => by
   unfold keepT at h
   cases hi : all[i]? with
   | none =>
     rw [hi] at h
     obtain ⟨h1, h2⟩ := lk_keepT (l := r) h
     exact ⟨List.mem_cons_of_mem _ h1, h2⟩
   | some x =>
     rw [hi] at h
     by_cases e : i = t
     ·subst e
      rw [lk_same] at h; cases h
      exact ⟨by simp, hi⟩
     ·rw [lk_ne _ _ e] at h
      obtain ⟨h1, h2⟩ := lk_keepT (l := r) h
      exact ⟨List.mem_cons_of_mem _ h1, h2⟩
theorem keptV_mem {vs : List Value} {tm : TM} {t : Nat} : ∀ {l : List Nat}, keptV vs tm l → t ∈ l → ∃ v, vs[t]? = some v ∧ lk t tm = some (.d (.v v))
 | [], _, h => by simp at h
 | i :: r, hk, h => by
   rcases List.mem_cons.1 h with rfl | h
   ·exact hk.1
   ·exact keptV_mem hk.2 h
def argsV : List AV → List Value → Prop
 | [], [] => True
 | u :: us, v :: vs => (match u with
   | .d (.v x) => v = x
   | _ => True) ∧ argsV us vs
 | _, _ => False
theorem argsV_of {B : Nat} {fp : Nat → Nat → Prop} {w : World} {bm : BM} {gt : Nat → Value} : ∀ {us : List AV} {vs : List Value}, vs.length = us.length → (∀ (i : Nat) u v, us[i]? = some u → vs[i]? = some v → RA B fp w bm gt u v) → argsV us vs
 | [], [], _, _ => trivial
 | u :: us, v :: vs, hl, h => by
   refine ⟨?_, argsV_of (by simpa using hl) fun i x y hx hy => h (i + 1) x y (by simpa using hx) (by simpa using hy)⟩
   have h0 := h 0 u v rfl rfl
   split
   ·rename_i x; exact h0.val
   ·trivial
 | [], _ :: _, hl, _ => by simp at hl
 | _ :: _, [], hl, _ => by simp at hl
def initV : Nat → List Value → TM
 | _, [] => []
 | i, v :: vs => (i, .d (.v v)) :: initV (i + 1) vs
theorem lk_initV {t : Nat} {u : AV} : ∀ (vs : List Value) (i : Nat), lk t (initV i vs) = some u → i ≤ t ∧ ∃ v, vs[t - i]? = some v ∧ u = .d (.v v)
 | [], _, h => by cases h
 | x :: vs, i, h => by
   simp only [initV, lk] at h
   cases hb : Nat.beq i t with
   | true => rw [hb] at h; cases h; obtain rfl := Nat.eq_of_beq_eq_true hb; exact ⟨Nat.le_refl _, x, by simp, rfl⟩
   | false =>
     rw [hb] at h
     obtain ⟨h1, v, h2, h3⟩ := lk_initV vs (i + 1) h
     refine ⟨by omega, v, ?_, h3⟩
     have : t - i = (t - (i + 1)) + 1 := by omega
     rw [this, List.getElem?_cons_succ]; exact h2
def PreK (vs : List Value) (keep : List Nat) (sl n sz : Nat) (e : TypeId) (ds : List D) (σ : AS) : Prop := ∃ κ, lk sl σ.tm = some (.own κ n sz e ds) ∧ lk κ σ.tk = some (n, sz, e) ∧ keptV vs σ.tm keep
theorem inl_pre {P : Program} {C : Cx} {o : Oper} {σ : AS} {bm : BM} {gt : Nat → Value} {fp : Nat → Nat → Prop} {a : Act} {w : World} (hg : GG C bm gt fp σ a w) (hd : ∀ t, o.dst = some t → t < C.N) {f : FuncId} {fn : Func} {c : Code} {us : List AV} {vs : List Value} {S : AS → Prop} (hf : P.funcs[f]? = some fn) (hb : fn.body = some c) (hn : fn.results.size ≤ 4) (hN : us.length ≤ fn.ntmps) (hN6 : fn.ntmps ≤ 1000000) (hl : vs.length = us.length)
 (hr : ∀ (i : Nat) u v, us[i]? = some u → vs[i]? = some v → RA C.W.heap.size fp w bm gt u v) (k sl κ n sz : Nat) (e : TypeId) (ds : List D) (keep : List Nat) (hsl : sl < fn.ntmps) (hκ : (AS.mk (inT us σ.tm) σ.bx σ.tk).clean κ = true)
 (hA : ∀ vs, argsV us vs → ∀ W fp0 z0, ASeq P ⟨W, fp0, fn.ntmps, fun _ => none, z0⟩ (takeC k c) (PreK vs keep sl n sz e ds) ⟨initV 0 vs, [], []⟩)
 (hB : ∀ gh, ACode P ⟨C.W, C.fp0, fn.ntmps, gh, C.z0⟩ (dropC k c) (endI P fn.results.toList o.dst S) ⟨(sl, .own κ n sz e ds) :: (keepT us keep ++ ghM 1000000 σ.tm), σ.bx, (κ, n, sz, e) :: σ.tk⟩) {K : Act → World → Prop} {Q : Exit → Act → World → Prop} (hK : ∀ σ' a' w', S σ' → G C σ' a' w' → K a' w') :
 o.upon P a K Q (.ok (.enter f vs.toArray) w) := by
 rw [Oper.upon_enter]
 have hcalls : Calls P f vs.toArray w fun e w' => ∃ v σ' u, e = .returned v ∧ S (σ'.ret o.dst u) ∧ ∃ bm gt fp a', GG (Cx.inn 1000000 C fn.ntmps a) bm gt fp σ' a' w' ∧ RA C.W.heap.size fp w' bm gt u v := by
  refine calls_of_wp hf hb ?_
  have hGin := hg.inn (M := 1000000) rfl (us := us) (vs := vs) hN6 hl hN hr
  have hG0 : G ⟨w, fp, fn.ntmps, fun _ => none, bm.z⟩ ⟨initV 0 vs, [], []⟩ { tmps := vs.toArray ++ Array.replicate (fn.ntmps - vs.toArray.size) undef, defers := [] } w := by
   refine ⟨⟨fun _ => 0, bm.z⟩, fun _ => undef, fp, { sz := ?_, nN := hN6, gd := hg.gdw, za := fun _ _ x => x, zb := fun _ _ x => .inl x, zf := hg.zf, ztk := fun k x hk => (by cases hk), df := rfl, tm := fun t u hu => ?_, bx := fun k cs hk => (by cases hk), bxi := fun k k' c c' hk => (by cases hk), tk := fun k n sz e hk => (by cases hk), tki := fun k k' x x' hk => (by cases hk), tkb := fun k k' x c hk => (by cases hk), fpb := fun b o hf => ⟨.inl hf, (hg.fpb b o hf).2⟩, fp0 := fun _ _ hf => hf, fpB := fun b o hf => (hg.fpb b o hf).2, bel := Below.refl _ _ }⟩
   ·show _ = fn.ntmps
    simp; omega
   ·obtain ⟨_, v, h2, rfl⟩ := lk_initV vs 0 hu
    rw [Nat.sub_zero] at h2
    have hlt := (List.getElem?_eq_some_iff.1 h2).1
    refine ⟨v, ?_, .d (.v v)⟩
    rw [Cx.val_lt (by omega), Array.getElem?_append_left (by simpa using hlt)]
    simpa using h2
  have hw : (seqs (takeC k c) (dropC k c)).wp P (bodyPost P fn (fun e w' => ∃ v σ' u, e = .returned v ∧ S (σ'.ret o.dst u) ∧ ∃ bm gt fp a', GG (Cx.inn 1000000 C fn.ntmps a) bm gt fp σ' a' w' ∧ RA C.W.heap.size fp w' bm gt u v)) { tmps := vs.toArray ++ Array.replicate (fn.ntmps - vs.toArray.size) undef, defers := [] } w := by
   refine aseq_wp (hA vs (argsV_of hl hr) w fp bm.z) hG0 ?_
   rintro σ1 a1 w1 ⟨κ1, k1, k2, k3⟩ ⟨bm1, gt1, fp1, hg1⟩
   obtain ⟨v, hv, hra⟩ := hg1.tm sl _ k1
   have hres : ResOk w fp bm.z w1 (.own 0 n sz e ds) v := by
    refine ⟨rfl, fp1, fun _ => gt1 κ1, bm1.z, hg1.fpb, ?_, fun n' sz' e' ht => by cases ht; exact ⟨hg1.tk _ _ _ _ k2, hg1.ztk κ1 _ k2⟩, hg1.za, hg1.zf, hg1.zb⟩
    cases hra with | own hra => exact .own (gt := fun _ => gt1 κ1) (k := 0) hra
   obtain ⟨bm2, gt2, fp2, hg2⟩ := hGin.back (t := sl) (κ := κ) hsl hκ hg1.bel hres
   have hg3 : GG (Cx.inn 1000000 C fn.ntmps a) bm2 gt2 fp2 ⟨(sl, .own κ n sz e ds) :: (keepT us keep ++ ghM 1000000 σ.tm), σ.bx, (κ, n, sz, e) :: σ.tk⟩ a1 w1 := by
    refine hg2.act hg1.sz hg1.df rfl rfl fun t u hu => ?_
    by_cases est : sl = t
    ·subst est
     rw [lk_same] at hu
     cases hu
     obtain ⟨v', q1, q2⟩ := hg2.tm sl (.own κ n sz e ds) (by show lk sl ((sl, _) :: _) = _; rw [lk_same]; rfl)
     have e1 : v' = v := by
      rw [Cx.val_lt (by omega)] at q1
      simp only [Act.put] at q1
      have hh : sl < (vs.toArray ++ Array.replicate (fn.ntmps - vs.toArray.size) undef).size := by simp; omega
      rw [Array.getElem?_setIfInBounds_self] at q1
      rw [if_pos hh] at q1
      exact (Option.some.inj q1).symm
     subst e1
     refine ⟨v', ?_, q2⟩
     rw [Cx.val_lt (by omega)] at hv ⊢
     exact hv
    ·rw [lk_ne _ _ est] at hu
     rcases lk_app hu with hu | hu
     ·obtain ⟨m1, m2⟩ := lk_keepT hu
      have htl := (List.getElem?_eq_some_iff.1 m2).1
      obtain ⟨x, x1, x2⟩ := keptV_mem k3 m1
      obtain ⟨y, y1, y2⟩ := hg1.tm t _ x2
      have exy : y = x := y2.val
      subst exy
      have hin : lk t (inM 1000000 us σ.tm) = some u := by
       have gen : ∀ (l : List AV) (i : Nat) (m : TM) (j : Nat), l[j]? = some u → lk (i + j) (initTm i l ++ m) = some u := by
        intro l
        induction l with
        | nil => intro i m j hj; simp at hj
        | cons q l ih =>
          intro i m j hj
          cases j with
          | zero => simp at hj; subst hj; show lk i ((i, q) :: _) = _; rw [lk_same]
          | succ j =>
            show lk (i + (j + 1)) ((i, q) :: (initTm (i + 1) l ++ m)) = _
            rw [lk_ne _ _ (by omega), show i + (j + 1) = i + 1 + j by omega]
            exact ih (i + 1) m j (by simpa using hj)
       have := gen us 0 (ghM 1000000 σ.tm) t m2
       rwa [Nat.zero_add] at this
      obtain ⟨z, z1, z2⟩ := hg2.tm t u (by show lk t ((sl, _) :: _) = _; rw [lk_ne _ _ est]; exact hin)
      have hzx : z = y := by
       rw [Cx.val_lt (by omega)] at z1
       simp only [Act.put] at z1
       rw [Array.getElem?_setIfInBounds_ne est, Array.getElem?_append_left (by simp; omega)] at z1
       have : vs[t]? = some z := by simpa using z1
       rw [x1] at this; exact (Option.some.inj this).symm
      subst hzx
      refine ⟨z, ?_, z2⟩
      rw [Cx.val_lt (by omega)] at y1 ⊢
      exact y1
     ·obtain ⟨g1, g2⟩ := lk_ghM hu
      have hin : lk t (inM 1000000 us σ.tm) = some u := by
       have gen : ∀ (l : List AV) (i : Nat) (m : TM), i + l.length ≤ t → lk t (initTm i l ++ m) = lk t m := by
        intro l
        induction l with
        | nil => intro i m _; rfl
        | cons q l ih =>
          intro i m hle
          rw [List.length_cons] at hle
          show lk t ((i, q) :: (initTm (i + 1) l ++ m)) = _
          rw [lk_ne _ _ (by omega)]
          exact ih (i + 1) m (by omega)
       show lk t (initTm 0 us ++ ghM 1000000 σ.tm) = _
       rw [gen us 0 _ (by omega)]; exact hu
      obtain ⟨z, z1, z2⟩ := hg2.tm t u (by show lk t ((sl, _) :: _) = _; rw [lk_ne _ _ est]; exact hin)
      exact ⟨z, (Cx.val_ge g1).trans ((Cx.val_ge g1).symm.trans z1), z2⟩
   refine wp_mono (hB _ a1 w1 ⟨bm2, gt2, fp2, hg3⟩) fun e a1 w' ⟨σ', hΦ, bm', gt', fp', hg'⟩ => ?_
   have fin : (∃ us, ResAVs P σ' fn.results.toList us ∧ S (σ'.ret o.dst (single us))) → bodyPost P fn (fun e w' => ∃ v σ' u, e = .returned v ∧ S (σ'.ret o.dst u) ∧ ∃ bm gt fp a', GG (Cx.inn 1000000 C fn.ntmps a) bm gt fp σ' a' w' ∧ RA C.W.heap.size fp w' bm gt u v) .ret a1 w' := by
    rintro ⟨us', h1, h2⟩
    obtain ⟨v, hrun, hra⟩ := run_results hg' h1 hn
    exact ⟨hg'.df, v, hrun, v, σ', single us', rfl, h2, bm', gt', fp', a1, hg', hra⟩
   cases e with
   | normal => exact fin hΦ
   | ret => exact fin hΦ
   | _ => exact hΦ.elim
  rw [seqs_cut] at hw
  exact hw
 refine hcalls.mono ?_
 rintro e w' ⟨v, σ', u, rfl, hS, bm', gt', fp', a', hg', hra⟩
 simp only []
 have ho := hg'.out (M := 1000000) rfl hg.sz hg.nN hg.df
 refine hK _ _ _ hS ?_
 unfold AS.ret
 cases hdd : o.dst with
 | none => exact ⟨bm', gt', fp', ho⟩
 | some t => exact ⟨bm', gt', fp', ho.put (t := t) (hd t hdd) hra⟩
theorem nstep_preC {P : Program} {C : Cx} {T : Tab} {o : Oper} {tm : TM} {bx : BX} {tk : TK} {f : FuncId} {s : Nat} {fs cs : List AV} {fn : Func} {c : Code} {args : Array Operand} {ats : Array TypeId} {us : List AV} {K : KS} (k sl κ n sz : Nat) (e : TypeId) (ds : List D) (keep : List Nat) (off N : Nat) (rs : Array ResultVar) (hT : TabOk P T) (hm : P.follows .mixedOrders = true) (ho : o.op = .call { callee := .value (.tmp s), args := args, argTypes := ats }) (hd : dstOk o.dst C.N = true)
 (hv : evT tm (.tmp s) = some (.cl f fs cs)) (hu : evL ⟨tm, bx, tk⟩ args.toList = some us) (hf : P.funcs[f]? = some fn) (hN : fn.ntmps = N) (hn0 : (fn.name == "runtime.NumGoroutine") = false) (hb : fn.body = some c) (hr : fn.results = rs) (hn : Nat.ble rs.size 4 = true) (hA : (Nat.ble (fs ++ us ++ cs).length N && Nat.ble N 1000000 && Nat.blt sl N) = true)
 (hκ : (AS.mk (inT (fs ++ us ++ cs) tm) bx tk).clean κ = true)
 (h1 : ∀ vs, argsV (fs ++ us ++ cs) vs → ∀ W fp0 z0, seqVC P ⟨W, fp0, N, fun _ => none, z0⟩ T (takeC k c) (fun tm bx tk => PreK vs keep sl n sz e ds ⟨tm, bx, tk⟩) (initV 0 vs) [] [])
 (h2 : ∀ gh, forceL ((sl, .own κ n sz e ds) :: (keepT (fs ++ us ++ cs) keep ++ ghM 1000000 tm)) (fun tm => codeVC P ⟨C.W, C.fp0, N, gh, C.z0⟩ ⟨T.ty, T.fd, T.st, T.mu, off⟩ (dropC k c) (endIK T rs o.dst K) (fun _ _ _ _ => False) (endIK T rs o.dst K) tm bx ((κ, n, sz, e) :: tk))) : NStep P C o tm bx tk K := by
 simp only [Bool.and_eq_true] at hA
 subst hN hr
 refine ⟨fun σ' => K σ'.tm σ'.bx σ'.tk, ?_, fun σ' h => h⟩
 rintro a w ⟨bm, gt, fp, hg⟩ K' Q hK
 obtain ⟨hl, hr⟩ := hg.evA hu
 have hv0 := hg.eval (x := .tmp s) (evT_eq hv)
 generalize hvv : a.eval (.tmp s) = v at hv0
 cases hv0 with
 | cl ms ns h3 h4 h6 h7 =>
   have hrun : (execOp a.eval o).run P w = .ok (.enter f (ms ++ args.toList.map a.eval ++ ns).toArray) w := by
    simp only [execOp, ho, resolve, hvv, Deferred.ofValue, invoke, Sem.run_bind, Sem.run_pure, Result.andThen_ok, enters hf hn0 hb]
    obtain ⟨l⟩ := args
    simp
   unfold Oper.wp
   rw [hrun]
   have app : ∀ {l1 l2 : List AV} {m1 m2 : List Value}, m1.length = l1.length → m2.length = l2.length → (∀ (i : Nat) u v, l1[i]? = some u → m1[i]? = some v → RA C.W.heap.size fp w bm gt u v) → (∀ (i : Nat) u v, l2[i]? = some u → m2[i]? = some v → RA C.W.heap.size fp w bm gt u v) → ∀ (i : Nat) u v, (l1 ++ l2)[i]? = some u → (m1 ++ m2)[i]? = some v → RA C.W.heap.size fp w bm gt u v := by
    intro l1 l2 m1 m2 e1 e2 r1 r2 i u v hu hv
    by_cases hi : i < l1.length
    ·rw [List.getElem?_append_left hi] at hu
     rw [List.getElem?_append_left (by omega)] at hv
     exact r1 i u v hu hv
    ·rw [List.getElem?_append_right (by omega)] at hu
     rw [List.getElem?_append_right (by omega)] at hv
     rw [e1] at hv
     exact r2 _ u v hu hv
   refine inl_pre (us := fs ++ us ++ cs) hg (fun t ht => by unfold dstOk at hd; rw [ht] at hd; exact ltN hd) hf hb (leN hn) (leN hA.1.1) (leN hA.1.2) ?_ (app (by rw [List.length_append, List.length_append, h3, hl]) h4 (app h3 hl h6 hr) h7) k sl κ n sz e ds keep (ltN hA.2) hκ (fun vs hvs W fp0 z0 => seqVC_ok hT hm (h1 vs hvs W fp0 z0)) (fun gh => ?_) hK
   ·simp only [List.length_append]; omega
   ·have hg := forceL_eq (K := fun tm => codeVC P ⟨C.W, C.fp0, fn.ntmps, gh, C.z0⟩ ⟨T.ty, T.fd, T.st, T.mu, off⟩ (dropC k c) (endIK T fn.results o.dst K) (fun _ _ _ _ => False) (endIK T fn.results o.dst K) tm bx ((κ, n, sz, e) :: tk)) (h2 gh)
    refine acode_mono (code_ok (T := ⟨T.ty, T.fd, T.st, T.mu, off⟩) ⟨hT.ty, hT.fd, hT.st⟩ hm (dropC k c) _ _ _ _ _ _ hg) fun e σ he => ?_
    cases e with
    | normal => exact endIK_ok hT he
    | exit id => exact False.elim he
    | ret => exact endIK_ok hT he
    | goto l => exact he.elim
    | panic c => exact he.elim
    | _ => first | exact he.elim | exact he
end Go.Proofs.YtblabcopgeobgaaGreatDoor

namespace Go.Proofs.YtblabcopgeobgaaGreatDoor
open Go.RowKit
abbrev sx (l : List UInt8) : AV := .d (.v (.string ⟨⟨l⟩⟩))
def strC (l : List UInt8) : List D := [.v (.string ⟨⟨l⟩⟩)]
def strsD (t : Bool) (ps : List (List UInt8)) : D := tabD t 1 strC ps
theorem un_strsD (t : Bool) (ps : List (List UInt8)) : (strsD t ps).un = strsD false ps := un_tab (fun _ => rfl) t 1 ps
theorem strC_get (ps : List (List UInt8)) (i : Nat) : (ps.flatMap strC)[i]? = (ps[i]?).map fun p => D.v (.string ⟨⟨p⟩⟩) := by
 have : ps.flatMap strC = ps.map fun p => D.v (.string ⟨⟨p⟩⟩) := by
  induction ps with
  | nil => rfl
  | cons p r ih => rw [List.flatMap_cons, ih]; rfl
 rw [this, List.getElem?_map]
theorem strC_len (ps : List (List UInt8)) : (ps.flatMap strC).length = ps.length := by
 induction ps with
 | nil => rfl
 | cons p r ih => rw [List.flatMap_cons, List.length_append, ih, List.length_cons]; simp [strC]; omega
theorem dots_len (s : List UInt8) : (dots s).length ≤ s.length + 1 := by
 induction s with
 | nil => simp [dots]
 | cons c r ih =>
   rw [dots]
   split
   ·simp only [List.length_cons]; omega
   ·obtain ⟨p, ps, h⟩ := dots_ne r
    rw [h] at ih ⊢
    simp only [List.length_cons] at ih ⊢; omega
theorem strSplit_any (s : List UInt8) (hs : s.length ≤ 1000000) : ACalls Tryz.prog 132 [.d (.v (.string ⟨⟨s⟩⟩)), .d (.v (.string ⟨#[46]⟩))] (fun r => r = .d (strsD true (dots s))) := by
 refine .of Tryz.func132 (by kernel_rfl) rfl rfl fun w fp0 bm gt vs hG hr => ?_
 match vs, hr with
 | [a, b], hr =>
   rw [hr.1.val, hr.2.1.val]
   obtain ⟨m, hm⟩ := hG.ml
   refine (Tryz.strings_Split ⟨⟨s⟩⟩ ⟨#[46]⟩ m w (by show s.length < _; omega) hm (by decide)).mono ?_
   rintro e w' ⟨rfl, rfl⟩
   rw [splitB_dots]
   have hl : Lib.countB ⟨⟨s⟩⟩ ⟨#[46]⟩ + 1 = (dots s).length := by
    have h1 := Lib.splitB_all ⟨#[46]⟩ (by decide) 0 _ ⟨⟨s⟩⟩ rfl
    rw [splitB_dots, List.length_map] at h1
    exact h1.symm
   rw [hl]
   have hd := dots_len s
   refine ⟨_, rfl, (Below.refl _ _).alloc (Nat.le_refl _) _, fun fp hfp hnew bm gt => .d ?_⟩
   refine .sl ((dots s).map fun p => .string ⟨⟨p⟩⟩) (Nat.le_refl _) (by unfold maxLen; omega) (by rw [strC_len, Nat.mul_one]) (by rw [strC_len, List.length_map]) (fun h => by cases h) (fun u hu => ?_) (fun i d u hd hu => ?_) (fun i u hu => ?_)
   ·obtain ⟨p, -, rfl⟩ := List.mem_map.1 hu; rfl
   ·rw [strC_get] at hd
    rw [List.getElem?_map] at hu
    cases hp : (dots s)[i]? with
    | none => rw [hp] at hd; cases hd
    | some p => rw [hp] at hd hu; cases hd; cases hu; exact .v _
   ·refine ⟨w.heap.size, 0, rfl, hnew _ _ (Nat.le_refl _) (by rw [World.size_alloc]; omega), fun _ => Nat.le_refl _, ?_⟩
    rw [World.cell?_alloc_new, Nat.zero_add]
    simpa [List.map_map, Function.comp_def] using hu
def errφ : (Nat → Nat → Prop) → World → Value → Prop := fun _ _ v => ∃ t p, v = .iface t p
def errA : AV := .sem errφ
def nilE : AV := .d (.v .nilIface)
def puA (l : List UInt8) : AV := match Lib.parseUintB 32 l with
 | .ok u => .tup [.d (.v (.int .u64 u)), nilE]
 | Lib.NumEnd.syntax => .tup [.d (.v (.int .u64 0)), errA]
 | .range => .tup [.d (.v (.int .u64 4294967295)), errA]
theorem err_ra {B : Nat} {fp : Nat → Nat → Prop} {w : World} {bm : BM} {gt : Nat → Value} (t : TypeId) (p : Value) : RA B fp w bm gt errA (.iface t p) := .sem rfl fun _ _ _ _ _ => ⟨t, p, rfl⟩
theorem parseU_any (l : List UInt8) (hl : l.length ≤ 1000000) : ACalls Tryz.prog 133 [.d (.v (.string ⟨⟨l⟩⟩)), iv 10, iv 32] (fun r => r = puA l) := by
 have hs : (⟨⟨l⟩⟩ : ByteArray).size = l.length := rfl
 unfold puA
 have hh : (∃ u, Lib.parseUintB 32 l = .ok u) ∨ Lib.parseUintB 32 l = Lib.NumEnd.syntax ∨ Lib.parseUintB 32 l = .range := by
  cases Lib.parseUintB 32 l
  ·exact .inl ⟨_, rfl⟩
  ·exact .inr (.inl rfl)
  ·exact .inr (.inr rfl)
 rcases hh with ⟨u, hp⟩ | hp | hp <;> rw [hp]
 ·
  refine .of Tryz.func133 (by kernel_rfl) rfl rfl fun w fp0 bm gt vs hG hr => ?_
  match vs, hr with
  | [a, b, c], hr =>
    rw [hr.1.val, hr.2.1.val, hr.2.2.1.val]
    refine (Tryz.strconv_ParseUint_10_at32_ok ⟨⟨l⟩⟩ (by rw [hs]; omega) u hp w).mono ?_
    rintro e w' ⟨rfl, hw⟩
    refine ⟨_, rfl, ?_, fun fp _ _ bm gt => .tup [_, _] rfl fun i x v hx hv => ?_⟩
    ·rcases hw with rfl | rfl
     ·exact Below.refl _ _
     ·exact Lib.bytesWorld_below _ _ _
    ·match i with
     | 0 => simp at hx hv; subst hx hv; exact .d (.v _)
     | 1 => simp at hx hv; subst hx hv; exact .d (.v _)
 ·
  refine .of Tryz.func133 (by kernel_rfl) rfl rfl fun w fp0 bm gt vs hG hr => ?_
  match vs, hr with
  | [a, b, c], hr =>
    rw [hr.1.val, hr.2.1.val, hr.2.2.1.val]
    obtain ⟨ev, h1, h2⟩ := hG.syn
    refine (Tryz.strconv_ParseUint_10_at32_syntax ⟨⟨l⟩⟩ (by rw [hs]; omega) hp ev w h1 h2).mono ?_
    rintro e w' ⟨N, rfl, -, -, hb⟩
    refine ⟨_, rfl, hb, fun fp _ _ bm gt => .tup [_, _] rfl fun i x v hx hv => ?_⟩
    match i with
    | 0 => simp at hx hv; subst hx hv; exact .d (.v _)
    | 1 => simp at hx hv; subst hx hv; exact err_ra _ _
 ·
  refine .of Tryz.func133 (by kernel_rfl) rfl rfl fun w fp0 bm gt vs hG hr => ?_
  match vs, hr with
  | [a, b, c], hr =>
    rw [hr.1.val, hr.2.1.val, hr.2.2.1.val]
    obtain ⟨ev, h1, h2⟩ := hG.rng
    refine (Tryz.strconv_ParseUint_10_at32_range ⟨⟨l⟩⟩ (by rw [hs]; omega) hp ev w h1 h2).mono ?_
    rintro e w' ⟨N, rfl, -, -, hb⟩
    refine ⟨_, rfl, hb, fun fp _ _ bm gt => .tup [_, _] rfl fun i x v hx hv => ?_⟩
    match i with
    | 0 => simp at hx hv; subst hx hv; exact .d (.v _)
    | 1 => simp at hx hv; subst hx hv; exact err_ra _ _
open Go.Sort Go.Lib in
set_option maxHeartbeats 6400000 in
set_option maxRecDepth 100000 in
theorem fmtI_walk (u : Nat) (hu64 : u < 18446744073709551616) (w : World) (htab : Lib.TabIs Tryz.prog w "internal/strconv.uint64pow10" .u64 Lib.pow10Tab) :
 Calls Tryz.prog 159 #[.int .u64 u, .int .i64 10] w fun e w' => e = .returned (.string ⟨(Lib.decDigits u).toArray⟩) ∧ Below w.heap.size w w' := by
 by_cases hs : u < 100
 ·have d1 : decide ((u : Int) < 100) = true := decide_eq_true (by omega)
  have w1 : IntKind.i64.wrap (u : Int) = (u : Int) := IntWalk.i64_in _ (by omega)
  have hc := fun w => Tryz.internal_strconv_small u hs w
  go_enter Tryz.func159, Tryz.ntmps159
  go_wp2_with (go_at_call 188; refine (hc _).mono ?_; rintro e w' ⟨rfl, rfl⟩)
  go_ret
  exact ⟨rfl, Below.refl _ _⟩
 ·have d1 : decide ((u : Int) < 100) = false := decide_eq_false (by omega)
  have hnd20 : Lib.nDigits u ≤ 20 := by have := Lib.numDigits_eq u (by omega) hu64; split at this <;> omega
  have hal : Tryz.prog.arrayLen 240 = 24 := by simp [Program.arrayLen, Tryz.underlying240]
  have hsl1 : ∀ W, (Instr.sliceAt 240 (.pointer (some ⟨w.heap.size, 0, none⟩)) none (some (.int .i64 (Lib.nDigits u : Int))) none).run Tryz.prog W = .ok (.slice (some ⟨w.heap.size, 0, none⟩) (Lib.nDigits u) 24) W := fun W => by
   rw [run_sliceAt_array_h W 240 ⟨w.heap.size, 0, none⟩ (by simp [Program.arrayLen, Program.elem, Tryz.underlying240]) .i64 (Lib.nDigits u : Int) (by omega) (by rw [hal]; omega)]
   rw [hal]; simp [Program.elem, Tryz.underlying240, Tryz.sizeOf5, Result.andThen, slicedAt, Lib.add_plain]
  have hH0 : Holds (fun (b : UInt8) => Value.int .u8 (b.toNat : Int)) (w.alloc (.cells Lib.zeros24 240)) w.heap.size 0 (Array.replicate (Lib.nDigits u) (0 : UInt8)) := fun i hi => by
   simp only [Array.size_replicate] at hi
   refine ⟨?_, World.frozen?_alloc_new _ _ _ _⟩
   rw [World.cell?_alloc_new, Nat.zero_add, Lib.zeros24_at i (by omega)]
   simp [hi]
  have hfmt := Tryz.internal_strconv_formatBase10 w.heap.size 0 24 u (Array.replicate (Lib.nDigits u) 0) (w.alloc (.cells Lib.zeros24 240)) hH0 (by rw [Array.size_replicate]; exact Lib.lt_pow_nDigits u) hu64 (by rw [Array.size_replicate]; omega)
  rw [Array.size_replicate] at hfmt
  have HH0 := Lib.hid hH0
  clear hH0 hal
  go_enter Tryz.func159, Tryz.ntmps159
  go_wp2_with (first
   | (go_at_call 189; refine (Tryz.internal_strconv_numDigits u (by omega) hu64 _ (Lib.tabIs_alloc htab _)).mono ?_; rintro e w' ⟨rfl, rfl⟩))
  go_at_call 190
  refine hfmt.mono ?_
  rintro e w' ⟨rfl, k, v', dk, rfl, hF⟩
  have hcv : (convert 22 9 (.slice (some ⟨w.heap.size, 0, none⟩) (Lib.nDigits u) 24)).run Tryz.prog ((putRow (fun (b : UInt8) => Value.int .u8 (b.toNat : Int)) (w.alloc (.cells Lib.zeros24 240)) w.heap.size 0 dk).drewN k) = .ok (.string ⟨(Lib.decDigits u).toArray⟩) ((putRow (fun (b : UInt8) => Value.int .u8 (b.toNat : Int)) (w.alloc (.cells Lib.zeros24 240)) w.heap.size 0 dk).drewN k) := by
   have h := run_convert_bytes_back (P := Tryz.prog) ((putRow (fun (b : UInt8) => Value.int .u8 (b.toNat : Int)) (w.alloc (.cells Lib.zeros24 240)) w.heap.size 0 dk).drewN k) 22 9 5 ⟨w.heap.size, 0, none⟩ 24 (Lib.decDigits u) Tryz.underlying22 Tryz.underlying5 Tryz.underlying9 (fun j hj => by
    rw [Lib.row_is_numeral hF j hj, Lib.add_plain, World.cell?_drewN]
    exact cell?_putRow (fun (b : UInt8) => Value.int .u8 (b.toNat : Int)) _ w.heap.size 0 _ dk HH0.out (by rw [hF.size, Array.size_replicate]) j (by rw [hF.size]; rw [Lib.decDigits_length] at hj; exact hj))
   rw [Lib.decDigits_length] at h
   exact h
  go_wp2
  go_ret
  refine ⟨rfl, ?_⟩
  refine ⟨rfl, rfl, rfl, ?_, fun i hi => ?_⟩
  ·show _ ≤ (putRow _ _ _ _ _).heap.size
   rw [Sort.size_putRow, World.size_alloc]; omega
  ·show (putRow _ _ _ _ _).heap[i]? = _
   simp only [putRow, mapBlock, Array.getElem?_modify]
   rw [if_neg (by omega)]
   exact Below.heap_alloc w _ i hi
theorem eqif0 (d : Nat) (w : World) : (Op.equalIn (d + 1) 189 .nilIface .nilIface).run Tryz.prog w = .ok true w := by
 simp [Op.equalIn, Sem.run_bind, run_underlying Tryz.underlying189, Result.andThen]
theorem eqif1 (d : Nat) (t : TypeId) (p : Value) (w : World) : (Op.equalIn (d + 1) 189 (.iface t p) .nilIface).run Tryz.prog w = .ok false w := by
 simp [Op.equalIn, Sem.run_bind, run_underlying Tryz.underlying189, Result.andThen]
theorem neq_nil0 (x : Operand) (w : World) : (do eqGuard .neq 189 x (.const .nilIface) .nilIface .nilIface; binOp .neq 189 .nilIface .nilIface : Sem Value).run Tryz.prog w = .ok (.bool false) w := by
 have e : ∀ w, (Op.equal 189 .nilIface .nilIface).run Tryz.prog w = .ok true w := fun w => eqif0 9999 w
 simp [eqGuard, Result.andThen, binOp, e]
theorem neq_nil1 (x : Operand) (t : TypeId) (p : Value) (w : World) : (do eqGuard .neq 189 x (.const .nilIface) (.iface t p) .nilIface; binOp .neq 189 (.iface t p) .nilIface : Sem Value).run Tryz.prog w = .ok (.bool true) w := by
 have e : ∀ w, (Op.equal 189 (.iface t p) .nilIface).run Tryz.prog w = .ok false w := fun w => eqif1 9999 t p w
 simp [eqGuard, Result.andThen, binOp, e]
section
variable {C : Cx} {o : Oper} {σ : AS} {t : Nat}
theorem step_noErr {yt : TypeId} {x : Operand} (ho : o.op = .binOp .neq 189 x (.const .nilIface) yt) (hd : o.dst = some t) (ht : t < C.N) (hx : σ.eval x = some nilE) : AStep Tryz.prog C o σ (σ.put t (bv false)) :=
 step_val hd ht fun a w bm gt fp hg => ⟨_, by
  have h1 := (hg.eval hx).val
  have h2 : a.eval (.const .nilIface) = .nilIface := rfl
  simp only [execOp, ho, h1, h2]
  rw [Sem.run_bind, neq_nil0 x w]
  rfl, .d (.v _)⟩
theorem step_isErr {yt : TypeId} {x : Operand} (ho : o.op = .binOp .neq 189 x (.const .nilIface) yt) (hd : o.dst = some t) (ht : t < C.N) (hx : σ.eval x = some errA) : AStep Tryz.prog C o σ (σ.put t (bv true)) :=
 step_val hd ht fun a w bm gt fp hg => by
  have h := hg.eval hx
  generalize hv : a.eval x = v at h
  unfold errA at h
  cases h with
  | sem _ h =>
    obtain ⟨ti, p, rfl⟩ := h bm.z w (fun _ _ h => h) (fun _ _ _ => rfl) (NC.refl w)
    refine ⟨_, ?_, .d (.v _)⟩
    have h2 : a.eval (.const .nilIface) = .nilIface := rfl
    simp only [execOp, ho, hv, h2]
    rw [Sem.run_bind, neq_nil1 x ti p w]
    rfl
end
theorem fmtI_any (u : Nat) (hu : u < 18446744073709551616) : ACalls Tryz.prog 159 [.d (.v (.int .u64 u)), iv 10] (fun r => r = sx (Lib.decDigits u)) := by
 refine .of Tryz.func159 (by kernel_rfl) rfl rfl fun w fp0 bm gt vs hG hr => ?_
 match vs, hr with
 | [a, b], hr =>
   rw [hr.1.val, hr.2.1.val]
   refine (fmtI_walk u hu w hG.pow).mono ?_
   rintro e w' ⟨rfl, hb⟩
   exact ⟨_, rfl, hb, fun fp _ _ bm gt => .d (.v _)⟩
set_option maxRecDepth 100000 in
set_option maxHeartbeats 8000000 in
theorem fmt_any (u : Nat) (hu : u < 18446744073709551616) : ACalls Tryz.prog 134 [.d (.v (.int .u64 u)), iv 10] (fun r => r = sx (Lib.decDigits u)) := by
 have h := fmtI_any u hu
 refine acalls_vc 8 _ tabOk mixed Tryz.func134 rfl (by kernel_rfl) rfl rfl rfl rfl fun W0 fp0 z0 => ?_
 (repeat' ((conv => whnf); refine NCall.eq (h) (by rfl) ?_)); (all_goals (conv => whnf))
 all_goals (refine NEnd.eq ?_; (repeat' (first | exact leW_refl _ | refine And.intro ?_ ?_ | exact rfl)))
theorem join_any (ps : List (List UInt8)) (h0 : ps ≠ []) (hn : ps.length ≤ 1000000) (hl : (Lib.join ps [46]).length ≤ 100000000) : ACalls Tryz.prog 160 [.d (strsD false ps), .d (.v (.string ⟨#[46]⟩))] (fun r => r = sx (Lib.join ps [46])) := by
 refine .of Tryz.func160 (by kernel_rfl) rfl rfl fun w fp0 bm gt vs hG hr => ?_
 match vs, hr with
 | [a, b], hr =>
   rw [hr.2.1.val]
   have h1 := hr.1
   generalize hq : AV.d (strsD false ps) = q at h1
   cases h1 with
   | d h1 =>
     cases hq
     unfold strsD tabD at h1
     generalize hq : D.sl false ps.length 1 (ps.flatMap strC) = q at h1
     cases h1 with
     | sl us k1 k2 k3 k4 k5 k6 k7 k8 =>
       cases hq
       rw [strC_len] at k4
       obtain ⟨p, r, rfl⟩ : ∃ p r, ps = p :: r := by cases ps with | nil => exact absurd rfl h0 | cons p r => exact ⟨p, r, rfl⟩
       have hus0 : 0 < us.length := by rw [k4]; simp
       have hus : us[0]? = some us[0] := List.getElem?_eq_getElem hus0
       obtain ⟨bk, o, rfl, -, -, hc0⟩ := k8 0 _ hus
       have hlt : bk < w.heap.size := World.block_lt_of_cell? w _ hc0
       have hm : ((p :: r).map fun p => (⟨⟨p⟩⟩ : ByteArray)).map (·.data.toList) = p :: r := by rw [List.map_map]; exact List.map_id _
       have hJ := Tryz.strings_Join bk o _ ((p :: r).map fun p => ⟨⟨p⟩⟩) ⟨#[46]⟩ w (fun j x hx => ?_) hlt (by rw [List.length_map]; omega) (by rw [List.length_map]; exact k1) (by rw [hm]; show (Lib.join (p :: r) [46]).length ≤ _; omega)
       ·rw [hm, List.length_map] at hJ
        refine hJ.mono ?_
        rintro e w' ⟨rfl, hb⟩
        exact ⟨_, rfl, hb, fun fp _ _ bm gt => .d (.v _)⟩
       ·rw [List.getElem?_map, Option.map_eq_some_iff] at hx
        obtain ⟨y, hy, rfl⟩ := hx
        have hj : j < us.length := by rw [k4]; exact (List.getElem?_eq_some_iff.1 hy).1
        have hu : us[j]? = some us[j] := List.getElem?_eq_getElem hj
        obtain ⟨b', o', e1, -, -, e4⟩ := k8 j _ hu
        cases e1
        rw [e4]
        have := k7 j (.v (.string ⟨⟨y⟩⟩)) us[j] (by rw [strC_get, hy]; rfl) hu
        generalize us[j] = z at this
        cases this; rfl
     | v => cases hq
     | cp => cases hq
     | fn => cases hq
   | ptr => cases hq
   | own => cases hq
   | agg => cases hq
   | tup => cases hq
   | sem => cases hq
   | cl => cases hq
   | pk => cases hq
theorem join_text : ∀ (a : List Nat), Lib.join (a.map Lib.decDigits) [46] = textL a
 | [] => rfl
 | [n] => by simp [Lib.join, textL, List.intercalate]
 | n :: m :: r => by
   have ih := join_text (m :: r)
   rw [textL, ← ih]
   simp [Lib.join, List.intercalate]
end Go.Proofs.YtblabcopgeobgaaGreatDoor

namespace Go.Proofs.YtblabcopgeobgaaGreatDoor
open Go.RowKit
def arcC (n : Nat) : List D := [.v (.int .u32 n)]
def arcD (t : Bool) (a : List Nat) : D := tabD t 1 arcC a
theorem un_arcD (t : Bool) (a : List Nat) : (arcD t a).un = arcD false a := un_tab (fun _ => rfl) t 1 a
def numC (n : Nat) : List D := [.v (.int .u64 n)]
def numD (t : Bool) (a : List Nat) : D := tabD t 1 numC a
theorem un_numD (t : Bool) (a : List Nat) : (numD t a).un = numD false a := un_tab (fun _ => rfl) t 1 a
theorem uns_flat {α : Type} {f : α → List D} (hf : ∀ x, D.uns (f x) = f x) (l : List α) : D.uns (l.flatMap f) = l.flatMap f := by
 induction l with
 | nil => rfl
 | cons x r ih => rw [List.flatMap_cons, D.uns_eq, List.map_append, ← D.uns_eq, ← D.uns_eq, hf, ih]
theorem uns_arc (a : List Nat) : D.uns (a.flatMap arcC) = a.flatMap arcC := uns_flat (fun _ => rfl) a
theorem uns_num (a : List Nat) : D.uns (a.flatMap numC) = a.flatMap numC := uns_flat (fun _ => rfl) a
theorem uns_str (a : List (List UInt8)) : D.uns (a.flatMap strC) = a.flatMap strC := uns_flat (fun _ => rfl) a
abbrev uv (n : Nat) : AV := .d (.v (.int .u64 n))
abbrev wv (n : Nat) : AV := .d (.v (.int .u32 n))
set_option maxRecDepth 100000
set_option maxHeartbeats 8000000
theorem oidRight_any (a : List Nat) (ha : a.length ≤ 1000000000) : ACalls Tryz.prog 135 [.d (arcD false a)] (fun r => r = bv (rightB a)) := by
 match a, ha with
 | [], _ =>
   refine acalls_vc 24 _ tabOk mixed Tryz.func135 rfl (by kernel_rfl) rfl rfl rfl rfl fun W0 fp0 z0 => ?_
   (repeat' ((conv => whnf); refine NBr.yes ?_)); (all_goals (conv => whnf))
   all_goals (refine NEnd.eq ?_; (repeat' (first | exact leW_refl _ | refine And.intro ?_ ?_ | exact rfl)))
 | [x], _ =>
   refine acalls_vc 24 _ tabOk mixed Tryz.func135 rfl (by kernel_rfl) rfl rfl rfl rfl fun W0 fp0 z0 => ?_
   (repeat' ((conv => whnf); refine NBr.yes ?_)); (all_goals (conv => whnf))
   all_goals (refine NEnd.eq ?_; (repeat' (first | exact leW_refl _ | refine And.intro ?_ ?_ | exact rfl)))
 | x :: y :: r, ha =>
   have h0 : (x :: y :: r)[0]? = some x := rfl
   have h1 : (x :: y :: r)[1]? = some y := rfl
   simp only [List.length_cons] at ha
   by_cases c1 : x ≤ 2
   ·have g1 : decide ((x : Int) > 2) = false := decide_eq_false (by omega)
    by_cases c2 : x < 2
    ·have g2 : decide ((x : Int) < 2) = true := decide_eq_true (by omega)
     have e : rightB (x :: y :: r) = decide ((y : Int) < 40) := by
      rw [rightB, if_pos c2, decide_eq_true c1, Bool.true_and, decide_eq_decide]; omega
     rw [e]
     refine acalls_vc 24 _ tabOk mixed Tryz.func135 rfl (by kernel_rfl) rfl rfl rfl rfl fun W0 fp0 z0 => ?_
     (repeat' ((conv => whnf); first | refine NBr.no ?_ | refine NBr.pos (by assumption) ?_ | refine NBr.neg (by assumption) ?_ | refine NIdx.tab (fun _ => rfl) h0 ?_ | refine NIdx.tab (fun _ => rfl) h1 ?_)); (all_goals (conv => whnf))
     all_goals (refine NEnd.eq ?_; (repeat' (first | exact leW_refl _ | refine And.intro ?_ ?_ | exact rfl)))
    ·have g2 : decide ((x : Int) < 2) = false := decide_eq_false (by omega)
     have e : rightB (x :: y :: r) = decide ((y : Int) ≤ 4294967215) := by
      rw [rightB, if_neg c2, decide_eq_true c1, Bool.true_and, decide_eq_decide]; omega
     rw [e]
     refine acalls_vc 24 _ tabOk mixed Tryz.func135 rfl (by kernel_rfl) rfl rfl rfl rfl fun W0 fp0 z0 => ?_
     (repeat' ((conv => whnf); first | refine NBr.no ?_ | refine NBr.neg (by assumption) ?_ | refine NIdx.tab (fun _ => rfl) h0 ?_ | refine NIdx.tab (fun _ => rfl) h1 ?_)); (all_goals (conv => whnf))
     all_goals (refine NEnd.eq ?_; (repeat' (first | exact leW_refl _ | refine And.intro ?_ ?_ | exact rfl)))
   ·have g1 : decide ((x : Int) > 2) = true := decide_eq_true (by omega)
    have e : rightB (x :: y :: r) = false := by rw [rightB, decide_eq_false c1]; rfl
    rw [e]
    refine acalls_vc 24 _ tabOk mixed Tryz.func135 rfl (by kernel_rfl) rfl rfl rfl rfl fun W0 fp0 z0 => ?_
    (repeat' ((conv => whnf); first | refine NBr.no ?_ | refine NBr.pos (by assumption) ?_ | refine NIdx.tab (fun _ => rfl) h0 ?_)); (all_goals (conv => whnf))
    all_goals (refine NEnd.eq ?_; (repeat' (first | exact leW_refl _ | refine And.intro ?_ ?_ | exact rfl)))
def arcsA (s : List UInt8) : AV := match arcsS s with
 | some a => .tup [.d (arcD true a), iv 0]
 | none => .tup [nilA, iv 11]
theorem arcsL_len : ∀ {ps : List (List UInt8)} {a : List Nat}, arcsL ps = some a → a.length = ps.length
 | [], a, h => by rw [arcsL] at h; cases h; rfl
 | p :: r, a, h => by
   rw [arcsL] at h
   split at h
   ·rename_i n l h1 h2
    cases h
    rw [List.length_cons, List.length_cons, arcsL_len h2]
   ·cases h
theorem arcsL_snoc : ∀ {ps : List (List UInt8)} {a : List Nat} {p : List UInt8} {n : Nat}, arcsL ps = some a → arcS p = some n → arcsL (ps ++ [p]) = some (a ++ [n])
 | [], a, p, n, h, hp => by rw [arcsL] at h; cases h; rw [List.nil_append, arcsL, hp]; rfl
 | q :: r, a, p, n, h, hp => by
   rw [arcsL] at h
   split at h
   ·rename_i m l h1 h2
    cases h
    rw [List.cons_append, arcsL, h1, arcsL_snoc h2 hp]; rfl
   ·cases h
theorem arcsL_none : ∀ {ps : List (List UInt8)} {p : List UInt8}, p ∈ ps → arcS p = none → arcsL ps = none
 | q :: r, p, h, hp => by
   rw [arcsL]
   rcases List.mem_cons.1 h with rfl | h
   ·rw [hp]
   ·rw [arcsL_none h hp]; cases arcS q <;> rfl
theorem take_snoc {α : Type} {l : List α} {i : Nat} {x : α} (h : l[i]? = some x) : l.take (i + 1) = l.take i ++ [x] := by
 obtain ⟨hlt, he⟩ := List.getElem?_eq_some_iff.1 h
 rw [List.take_succ_eq_append_getElem hlt, he]
theorem beq_l (a b : List UInt8) : (a == b) = decide (a = b) := by
 by_cases h : a = b
 ·subst h; simp
 ·rw [decide_eq_false h]; exact beq_false_of_ne h
theorem dots_le : ∀ (s p : List UInt8), p ∈ dots s → p.length ≤ s.length
 | [], p, h => by simp [dots] at h; subst h; simp
 | c :: r, p, h => by
   rw [dots] at h
   split at h
   ·rcases List.mem_cons.1 h with rfl | h
    ·simp
    ·have := dots_le r p h; simp only [List.length_cons]; omega
   ·obtain ⟨q, qs, hq⟩ := dots_ne r
    have ih := dots_le r
    rw [hq] at h ih
    rcases List.mem_cons.1 h with rfl | h
    ·have := ih q (by simp); simp only [List.length_cons]; omega
    ·have := ih p (by simp [h]); simp only [List.length_cons]; omega
theorem oidArcs_any (s : List UInt8) (hs : s.length ≤ 1000000) : ACalls Tryz.prog 109 [sx s] (fun r => r = arcsA s) := by
 have hS := strSplit_any s hs
 have hdl := dots_len s
 have hple := dots_le s
 unfold arcsA arcsS
 generalize dots s = ps at hS hdl hple ⊢
 refine acalls_vc 39 _ tabOk mixed Tryz.func109 rfl (by kernel_rfl) rfl rfl rfl rfl fun W0 fp0 z0 => ?_
 (repeat' ((conv => whnf); refine NCall.eq (hS) (by rfl) ?_)); (all_goals (conv => whnf))
 refine NLoop.goA [.s 4 1 158] (fun p : Nat × List Nat => p.1 ≤ ps.length ∧ arcsL (ps.take p.1) = some p.2) (fun p => ps.length - p.1) (fun p => ⟨[(4, ownT 4 1 158 arcC p.2), (10, .d (strsD true ps)), (11, iv ps.length), (12, iv p.1)], [], [(4, (p.2.length, 1, 158))]⟩) (0, []) ⟨by simp, rfl⟩ (by ((repeat' (first | exact trivial | exact leW_refl _ | refine And.intro ?_ ?_ | exact rfl)))) ?_
 rintro ⟨i, ns⟩ ⟨hi, hns⟩
 simp only at hi hns
 have hnl := arcsL_len hns
 rw [List.length_take] at hnl
 by_cases hik : i < ps.length
 ·obtain ⟨p, hp⟩ : ∃ p, ps[i]? = some p := ⟨_, List.getElem?_eq_getElem hik⟩
  have hpl := hple p (List.mem_of_getElem? hp)
  have hP := parseU_any p (by omega)
  unfold puA at hP
  have hh : (∃ u, Lib.parseUintB 32 p = .ok u) ∨ ∃ n, ACalls Tryz.prog 133 [sx p, iv 10, iv 32] (fun r => r = .tup [uv n, errA]) ∧ arcS p = none := by
   unfold arcS
   generalize Lib.parseUintB 32 p = q at hP
   cases q with
   | ok u => exact .inl ⟨u, rfl⟩
   | _ => exact .inr ⟨_, hP, rfl⟩
  rcases hh with ⟨u, hu⟩ | ⟨n, hP', hn⟩
  ·rw [hu] at hP
   have hule := Lib.parseUintB_le hu
   have hF := fmt_any u (by omega)
   by_cases hd : Lib.decDigits u = p
   ·have ha : arcS p = some u := by unfold arcS; rw [hu]; exact if_pos hd
    have hne : (!(Lib.decDigits u == p)) = false := by rw [hd]; simp
    (repeat' ((conv => whnf); first | refine NBr.no ?_ | refine NBr.neg (by assumption) ?_ | refine NIdx.tab (fun _ => rfl) hp ?_ | refine NCall.eq (hP) (by rfl) ?_ | refine NCall.eq (hF) (by rfl) ?_ | refine NStep.go (step_noErr rfl rfl (ltN rfl) rfl) ?_ | refine NApp.one arcC u ?_ | (with_reducible refine NInt.i64 ?_) | (with_reducible refine NInt.u32 ?_) | (refine NBr.dec (fun hc hcP => ?_) (fun hc hcP => ?_) <;> try (exfalso; omega)))); (all_goals (conv => whnf))
    refine ⟨(i + 1, ns ++ [u]), ⟨by show i + 1 ≤ _; omega, ?_⟩, by show ps.length - (i + 1) < ps.length - i; omega, ?_⟩
    ·show arcsL (ps.take (i + 1)) = _
     rw [take_snoc hp]; exact arcsL_snoc hns ha
    ·((repeat' (first | exact trivial | exact leW_refl _ | refine And.intro ?_ ?_ | exact rfl)))
   ·have ha : arcS p = none := by unfold arcS; rw [hu]; exact if_neg hd
    have hne : (!(Lib.decDigits u == p)) = true := by rw [beq_l, decide_eq_false hd]; rfl
    rw [arcsL_none (List.mem_of_getElem? hp) ha]
    (repeat' ((conv => whnf); first | refine NBr.no ?_ | refine NBr.pos (by assumption) ?_ | refine NIdx.tab (fun _ => rfl) hp ?_ | refine NCall.eq (hP) (by rfl) ?_ | refine NCall.eq (hF) (by rfl) ?_ | refine NStep.go (step_noErr rfl rfl (ltN rfl) rfl) ?_ | (refine NBr.dec (fun hc hcP => ?_) (fun hc hcP => ?_) <;> try (exfalso; omega)))); (all_goals (conv => whnf))
    all_goals (refine NEnd.eq ?_; (repeat' (first | exact leW_refl _ | refine And.intro ?_ ?_ | exact rfl)))
  ·rw [arcsL_none (List.mem_of_getElem? hp) hn]
   (repeat' ((conv => whnf); first | refine NBr.yes ?_ | refine NIdx.tab (fun _ => rfl) hp ?_ | refine NCall.eq (hP') (by rfl) ?_ | refine NStep.go (step_isErr rfl rfl (ltN rfl) rfl) ?_ | (refine NBr.dec (fun hc hcP => ?_) (fun hc hcP => ?_) <;> try (exfalso; omega)))); (all_goals (conv => whnf))
   all_goals (refine NEnd.eq ?_; (repeat' (first | exact leW_refl _ | refine And.intro ?_ ?_ | exact rfl)))
 ·obtain rfl : i = ps.length := by omega
  rw [List.take_length] at hns
  have hR := oidRight_any ns (by omega)
  rw [hns]
  cases hr : rightB ns
  ·rw [hr] at hR
   simp only [hr]
   (repeat' ((conv => whnf); first | refine NBr.yes ?_ | refine NCall.eq (hR) (by first | rfl | (simp only [AV.gives, AV.give, uns_arc]; first | done | rfl)) ?_ | (refine NBr.dec (fun hc hcP => ?_) (fun hc hcP => ?_) <;> try (exfalso; omega)))); (all_goals (conv => whnf))
   all_goals (refine NEnd.eq ?_; (repeat' (first | exact leW_refl _ | refine And.intro ?_ ?_ | exact rfl)))
  ·rw [hr] at hR
   simp only [hr]
   (repeat' ((conv => whnf); first | refine NBr.no ?_ | refine NCall.eq (hR) (by first | rfl | (simp only [AV.gives, AV.give, uns_arc]; first | done | rfl)) ?_ | (refine NBr.dec (fun hc hcP => ?_) (fun hc hcP => ?_) <;> try (exfalso; omega)))); (all_goals (conv => whnf))
   all_goals (refine NEnd.eq ?_; (repeat' (first | exact trivial | exact leW_refl _ | refine And.intro ?_ ?_ | exact rfl)))
theorem dec_len (n : Nat) (hn : n ≤ 4294967295) : (Lib.decDigits n).length ≤ 20 := by
 rw [Lib.decDigits_length]
 have := Lib.nDigits_pos n
 rcases Nat.eq_zero_or_pos n with h | h
 ·subst h; rw [Lib.nDigits_small (by omega)]; omega
 ·have := Lib.numDigits_eq n h (by omega)
  have h2 := this.2
  have h3 := this.1
  split at h3 <;> omega
theorem textL_len : ∀ (a : List Nat), (∀ n ∈ a, n ≤ 4294967295) → (textL a).length ≤ 21 * a.length
 | [], _ => by simp [textL]
 | [n], h => by
   have := dec_len n (h n (by simp))
   rw [textL, List.length_singleton]; omega
 | n :: m :: r, h => by
   have h1 := dec_len n (h n (by simp))
   have h2 := textL_len (m :: r) (fun x hx => h x (by simp [hx]))
   rw [textL, List.length_append, List.length_cons]
   simp only [List.length_cons] at h2 ⊢
   omega
theorem oidText_any (a : List Nat) (hb : ∀ n ∈ a, n ≤ 4294967295) (ha : a.length ≤ 1000000) : ACalls Tryz.prog 136 [.d (arcD false a)] (fun r => r = if rightB a then .tup [sx (textL a), iv 0] else .tup [sx [], iv 8]) := by
 have hR := oidRight_any a (by omega)
 cases hr : rightB a
 ·rw [hr] at hR
  rw [if_neg (by simp)]
  refine acalls_vc 25 _ tabOk mixed Tryz.func136 rfl (by kernel_rfl) rfl rfl rfl rfl fun W0 fp0 z0 => ?_
  (repeat' ((conv => whnf); first | refine NBr.yes ?_ | refine NCall.eq (hR) (by first | rfl | (simp only [AV.gives, AV.give, un_arcD]; first | done | rfl)) ?_)); (all_goals (conv => whnf))
  all_goals (refine NEnd.eq ?_; (repeat' (first | exact leW_refl _ | refine And.intro ?_ ?_ | exact rfl)))
 ·rw [hr] at hR
  rw [if_pos rfl]
  obtain ⟨x, y, r, hxy, -⟩ := rightB_ne hr
  have htl := textL_len a hb
  have hJ := join_any (a.map Lib.decDigits) (by rw [hxy]; simp) (by rw [List.length_map]; omega) (by rw [join_text]; omega)
  rw [join_text] at hJ
  refine acalls_vc 25 _ tabOk mixed Tryz.func136 rfl (by kernel_rfl) rfl rfl rfl rfl fun W0 fp0 z0 => ?_
  (repeat' ((conv => whnf); first | refine NBr.no ?_ | refine NCall.eq (hR) (by first | rfl | (simp only [AV.gives, AV.give, un_arcD]; first | done | rfl)) ?_)); (all_goals (conv => whnf))
  refine NLoop.goA [.s 4 1 9] (fun i : Nat => i ≤ a.length) (fun i => a.length - i) (fun i => ⟨[(4, ownT 4 1 9 strC ((a.take i).map Lib.decDigits)), (10, .d (arcD false a)), (11, iv a.length), (12, iv i)], [], [(4, (((a.take i).map Lib.decDigits).length, 1, 9))]⟩) 0 (by simp) (by ((repeat' (first | exact trivial | exact leW_refl _ | refine And.intro ?_ ?_ | exact rfl)))) ?_
  intro i hi
  by_cases hik : i < a.length
  ·obtain ⟨n, hn⟩ : ∃ n, a[i]? = some n := ⟨_, List.getElem?_eq_getElem hik⟩
   have hn2 := hb n (List.mem_of_getElem? hn)
   have hF := fmt_any n (by omega)
   have hl : ((a.take i).map Lib.decDigits).length ≤ 1000000 := by rw [List.length_map, List.length_take]; omega
   (repeat' ((conv => whnf); first | refine NIdx.tab (fun _ => rfl) hn ?_ | refine NCall.eq (hF) (by rfl) ?_ | refine NApp.one strC (Lib.decDigits n) ?_ | (with_reducible refine NInt.i64 ?_) | (with_reducible refine NInt.u64 ?_) | (refine NBr.dec (fun hc hcP => ?_) (fun hc hcP => ?_) <;> try (exfalso; omega)))); (all_goals (conv => whnf))
   refine ⟨i + 1, by omega, by omega, ?_⟩
   rw [take_snoc hn, List.map_append]
   ((repeat' (first | exact trivial | exact leW_refl _ | refine And.intro ?_ ?_ | exact rfl)))
  ·obtain rfl : i = a.length := by omega
   rw [List.take_length]
   (repeat' ((conv => whnf); first | refine NCall.eq (hJ) (by first | rfl | (simp only [AV.gives, AV.give, D.un, uns_str]; first | done | rfl)) ?_ | (refine NBr.dec (fun hc hcP => ?_) (fun hc hcP => ?_) <;> try (exfalso; omega)))); (all_goals (conv => whnf))
   all_goals (refine NEnd.eq ?_; (repeat' (first | exact leW_refl _ | refine And.intro ?_ ?_ | exact rfl)))
end Go.Proofs.YtblabcopgeobgaaGreatDoor

namespace Go.Proofs.YtblabcopgeobgaaGreatDoor
open Go.RowKit
set_option maxRecDepth 100000
set_option maxHeartbeats 8000000
theorem step_min {P : Program} {C : Cx} {o : Oper} {σ : AS} {t : Nat} {k k' : IntKind} {m n : Int} {x y : Operand} {ats : Array TypeId} (v : Int) (hv : (if n < m then n else m) = v) (ho : o.op = .call { callee := .builtin .min, args := #[x, y], argTypes := ats }) (hd : o.dst = some t) (ht : t < C.N) (hx : σ.eval x = some (.d (.v (.int k m)))) (hy : σ.eval y = some (.d (.v (.int k' n)))) : AStep P C o σ (σ.put t (.d (.v (.int k v)))) :=
 step_val hd ht fun a w bm gt fp hg => by
  have h1 := (hg.eval hx).val
  have h2 := (hg.eval hy).val
  refine ⟨_, ?_, .d (.v _)⟩
  simp only [execOp, ho, resolve, invoke, builtin, Sem.run_bind, Sem.run_pure, Result.andThen_ok, List.map_toArray, List.map_cons, List.map_nil, h1, h2]
  subst hv
  simp [go_sem]
  omega
theorem and127 (x : UInt8) : IntKind.u8.wrap ((BitVec.ofInt IntKind.u8.bits (x.toNat : Int) &&& BitVec.ofInt IntKind.u8.bits 127).toNat : Int) = ((x.toNat % 128 : Nat) : Int) := by
 have h : ∀ x : Fin 256, IntKind.u8.wrap ((BitVec.ofInt IntKind.u8.bits (x.1 : Int) &&& BitVec.ofInt IntKind.u8.bits 127).toNat : Int) = ((x.1 % 128 : Nat) : Int) := by decide +kernel
 exact h ⟨x.toNat, x.toNat_lt⟩
theorem and128 (x : UInt8) : IntKind.u8.wrap ((BitVec.ofInt IntKind.u8.bits (x.toNat : Int) &&& BitVec.ofInt IntKind.u8.bits 128).toNat : Int) = ((x.toNat / 128 * 128 : Nat) : Int) := by
 have h : ∀ x : Fin 256, IntKind.u8.wrap ((BitVec.ofInt IntKind.u8.bits (x.1 : Int) &&& BitVec.ofInt IntKind.u8.bits 128).toNat : Int) = ((x.1 / 128 * 128 : Nat) : Int) := by decide +kernel
 exact h ⟨x.toNat, x.toNat_lt⟩
theorem shl7 (n : Nat) (hn : n ≤ 4294967295) : IntKind.u64.wrap ((n : Int) * 2 ^ (min (Int.toNat 7) IntKind.u64.bits)) = ((n * 128 : Nat) : Int) := by
 have : (2 : Int) ^ (min (Int.toNat 7) IntKind.u64.bits) = 128 := by decide
 rw [this, IntWalk.u64_in _ (by omega)]; omega
theorem or7 (n m : Nat) (hn : n ≤ 4294967295) (hm : m < 128) : IntKind.u64.wrap ((BitVec.ofInt IntKind.u64.bits ((n * 128 : Nat) : Int) ||| BitVec.ofInt IntKind.u64.bits (m : Int)).toNat : Int) = ((n * 128 + m : Nat) : Int) := by
 rw [BitVec.toNat_or, BitVec.ofInt_natCast, BitVec.ofInt_natCast, BitVec.toNat_ofNat, BitVec.toNat_ofNat]
 have hb64 : 2 ^ IntKind.u64.bits = 18446744073709551616 := by decide
 rw [hb64, Nat.mod_eq_of_lt (by omega), Nat.mod_eq_of_lt (by omega)]
 have : n * 128 ||| m = n * 128 + m := by
  have h := Nat.shiftLeft_add_eq_or_of_lt (i := 7) (b := m) (by omega) n
  rw [Nat.shiftLeft_eq] at h
  exact h.symm
 rw [this, IntWalk.u64_in _ (by omega)]
def numsJ (ns : List Nat) : Option (List Nat) → Option (List Nat)
 | some l => some (ns ++ l)
 | none => none
theorem numsJ_cons (ns : List Nat) (n : Nat) (o : Option (List Nat)) : numsJ ns (match o with | some l => some (n :: l) | none => none) = numsJ (ns ++ [n]) o := by
 cases o with
 | none => rfl
 | some l => show some (ns ++ n :: l) = some (ns ++ [n] ++ l); simp
theorem drop_get {α : Type} {l : List α} {i : Nat} {x : α} (h : l[i]? = some x) : l.drop i = x :: l.drop (i + 1) := by
 obtain ⟨h1, h2⟩ := List.getElem?_eq_some_iff.1 h
 rw [List.drop_eq_getElem_cons h1, h2]
theorem numsS_step {c : List UInt8} {i : Nat} {x : UInt8} {b : Bool} {n : Nat} (hx : c[i]? = some x) : numsS b n (c.drop i) = if b = false ∧ x = 128 then none else if n * 128 + x.toNat % 128 > 4294967295 then none else if x.toNat < 128 then (match numsS false 0 (c.drop (i + 1)) with
 | some l => some ((n * 128 + x.toNat % 128) :: l)
 | none => none) else numsS true (n * 128 + x.toNat % 128) (c.drop (i + 1)) := by
 rw [drop_get hx, numsS] <;> rfl
def decA (c : List UInt8) : AV := .tup [sx (odT c), iv (odC c)]
theorem decA_none {c : List UInt8} (h : numsS false 0 c = none ∨ numsS false 0 c = some []) : decA c = .tup [sx [], iv 6] := by
 have : decS c = none := by unfold decS; rcases h with h | h <;> rw [h]
 unfold decA odT odC
 rw [this]; rfl
theorem decA_some {c : List UInt8} {n : Nat} {r : List Nat} (h : numsS false 0 c = some (n :: r)) : decA c = .tup [sx (textL (unroot (n :: r))), iv 0] := by
 have : decS c = some (unroot (n :: r)) := by unfold decS; rw [h]
 unfold decA odT odC
 rw [this]; rfl
structure DSt where
 i : Nat
 ns : List Nat
 b : Bool
 n : Nat
theorem oidDec_any (c : List UInt8) (hc : c.length ≤ 900000) : ACalls Tryz.prog 112 [.d (bytesD false c)] (fun r => r = decA c) := by
 refine acalls_vc 87 _ tabOk mixed Tryz.func112 rfl (by kernel_rfl) rfl rfl rfl rfl fun W0 fp0 z0 => ?_
 (all_goals (conv => whnf))
 refine NLoop.goA [.s 4 1 148] (fun p : DSt => p.i ≤ c.length ∧ p.ns.length ≤ p.i ∧ p.n ≤ 4294967295 ∧ (p.b = false → p.n = 0) ∧ numsS false 0 c = numsJ p.ns (numsS p.b p.n (c.drop p.i))) (fun p => c.length - p.i) (fun p => ⟨[(4, ownT 4 1 148 numC p.ns), (5, bv p.b), (6, uv p.n), (15, .d (bytesD false c)), (16, iv c.length), (17, iv p.i)], [], [(4, (p.ns.length, 1, 148))]⟩) ⟨0, [], false, 0⟩ ⟨by simp, by simp, by simp, by simp, (by show numsS false 0 c = numsJ [] (numsS false 0 c); cases numsS false 0 c <;> rfl)⟩ (by ((repeat' (first | exact trivial | exact leW_refl _ | refine And.intro ?_ ?_ | exact rfl)))) ?_
 rintro ⟨i, ns, b, n⟩ ⟨hi, hnl, hn, hb0, he⟩
 simp only at hi hnl hn hb0 he
 by_cases hik : i < c.length
 ·obtain ⟨x, hx⟩ : ∃ x, c[i]? = some x := ⟨_, List.getElem?_eq_getElem hik⟩
  have hxl := x.toNat_lt
  rw [numsS_step hx] at he
  have hb1 : (!b && ((x.toNat : Int) == 128)) = decide (b = false ∧ x = 128) := by
   have : ((x.toNat : Int) == 128) = decide (x = 128) := by
    rw [Bool.eq_iff_iff, beq_iff_eq, decide_eq_true_eq, ← UInt8.toNat_inj]
    show _ ↔ x.toNat = 128
    omega
   rw [this]; cases b <;> simp
  by_cases c1 : b = false ∧ x = 128
  ·rw [if_pos c1] at he
   rw [decA_none (.inl he)]
   obtain ⟨rfl, rfl⟩ := c1
   have g : (((128 : UInt8).toNat : Int) == 128) = true := by decide
   (repeat' ((conv => whnf); first | refine NBr.yes ?_ | refine NIdx.bytes hx ?_ | (refine NBr.mk (fun hc => ?_) (fun hc => ?_) <;> (have hcP := hc; (try simp only [decide_eq_true_eq, decide_eq_false_iff_not] at hcP) <;> first | (exfalso; omega) | skip)))); (all_goals (conv => whnf))
   all_goals (refine NEnd.eq ?_; (repeat' (first | exact leW_refl _ | refine And.intro ?_ ?_ | exact rfl)))
  ·rw [if_neg c1] at he
   have e1 := and127 x
   have e2 := and128 x
   have e3 := shl7 n hn
   have e4 := or7 n (x.toNat % 128) hn (by omega)
   by_cases c2 : n * 128 + x.toNat % 128 > 4294967295
   ·rw [if_pos c2] at he
    rw [decA_none (.inl he)]
    have g2 : decide (((n * 128 + x.toNat % 128 : Nat) : Int) > 4294967295) = true := decide_eq_true (by omega)
    cases b
    ·have g : ((x.toNat : Int) == 128) = false := by
      rw [Bool.not_false, Bool.true_and] at hb1
      rw [hb1, decide_eq_false c1]
     (repeat' ((conv => whnf); first | refine NBr.yes ?_ | refine NBr.pos (by assumption) ?_ | refine NBr.neg (by assumption) ?_ | refine NIdx.bytes hx ?_ | refine NInt.as (((n * 128 : Nat) : Int) ) ( e3) ?_ | refine NInt.as (((x.toNat % 128 : Nat) : Int) ) ( e1) ?_ | refine NInt.as (((n * 128 + x.toNat % 128 : Nat) : Int) ) ( e4) ?_ | refine NInt.as (((x.toNat / 128 * 128 : Nat) : Int) ) ( e2) ?_ | (with_reducible refine NInt.u64 ?_) | refine NFact.go (by first | decide | omega | (simp only [List.length_cons, List.length_nil]; omega)) ?_ | (refine NBr.mk (fun hc => ?_) (fun hc => ?_) <;> (have hcP := hc; (try simp only [decide_eq_true_eq, decide_eq_false_iff_not] at hcP) <;> first | (exfalso; omega) | skip)))); (all_goals (conv => whnf))
     all_goals (refine NEnd.eq ?_; (repeat' (first | exact leW_refl _ | refine And.intro ?_ ?_ | exact rfl)))
    ·(repeat' ((conv => whnf); first | refine NBr.no ?_ | refine NBr.pos (by assumption) ?_ | refine NIdx.bytes hx ?_ | refine NInt.as (((n * 128 : Nat) : Int) ) ( e3) ?_ | refine NInt.as (((x.toNat % 128 : Nat) : Int) ) ( e1) ?_ | refine NInt.as (((n * 128 + x.toNat % 128 : Nat) : Int) ) ( e4) ?_ | refine NInt.as (((x.toNat / 128 * 128 : Nat) : Int) ) ( e2) ?_ | (with_reducible refine NInt.u64 ?_) | refine NFact.go (by first | decide | omega | (simp only [List.length_cons, List.length_nil]; omega)) ?_ | (refine NBr.mk (fun hc => ?_) (fun hc => ?_) <;> (have hcP := hc; (try simp only [decide_eq_true_eq, decide_eq_false_iff_not] at hcP) <;> first | (exfalso; omega) | skip)))); (all_goals (conv => whnf))
     all_goals (refine NEnd.eq ?_; (repeat' (first | exact leW_refl _ | refine And.intro ?_ ?_ | exact rfl)))
   ·rw [if_neg c2] at he
    have g2 : decide (((n * 128 + x.toNat % 128 : Nat) : Int) > 4294967295) = false := decide_eq_false (by omega)
    by_cases c3 : x.toNat < 128
    ·rw [if_pos c3, numsJ_cons] at he
     have g3 : (((x.toNat / 128 * 128 : Nat) : Int) != 0) = false := by rw [bne_eq_false_iff_eq]; omega
     cases b
     ·have g : ((x.toNat : Int) == 128) = false := by
       rw [Bool.not_false, Bool.true_and] at hb1
       rw [hb1, decide_eq_false c1]
      (repeat' ((conv => whnf); first | refine NBr.yes ?_ | refine NBr.neg (by assumption) ?_ | refine NIdx.bytes hx ?_ | refine NInt.as (((n * 128 : Nat) : Int) ) ( e3) ?_ | refine NInt.as (((x.toNat % 128 : Nat) : Int) ) ( e1) ?_ | refine NInt.as (((n * 128 + x.toNat % 128 : Nat) : Int) ) ( e4) ?_ | refine NInt.as (((x.toNat / 128 * 128 : Nat) : Int) ) ( e2) ?_ | refine NApp.one numC (n * 128 + x.toNat % 128) ?_ | (with_reducible refine NInt.i64 ?_) | (with_reducible refine NInt.u64 ?_) | refine NFact.go (by first | decide | omega | (simp only [List.length_cons, List.length_nil]; omega)) ?_ | (refine NBr.mk (fun hc => ?_) (fun hc => ?_) <;> (have hcP := hc; (try simp only [decide_eq_true_eq, decide_eq_false_iff_not, bne_iff_ne, bne_eq_false_iff_eq, ne_eq, Bool.not_eq_true', Bool.not_eq_false'] at hcP) <;> first | (exfalso; omega) | skip)))); (all_goals (conv => whnf))
      refine ⟨⟨i + 1, ns ++ [n * 128 + x.toNat % 128], (((x.toNat / 128 * 128 : Nat) : Int) != 0), 0⟩, ⟨by show i + 1 ≤ _; omega, by simp; omega, by simp, fun _ => rfl, ?_⟩, by show c.length - (i + 1) < c.length - i; omega, ?_⟩
      ·show numsS false 0 c = numsJ _ (numsS (((x.toNat / 128 * 128 : Nat) : Int) != 0) 0 (c.drop (i + 1)))
       rw [g3]; exact he
      ·((repeat' (first | exact trivial | exact leW_refl _ | refine And.intro ?_ ?_ | exact rfl)))
     ·(repeat' ((conv => whnf); first | refine NBr.no ?_ | refine NBr.neg (by assumption) ?_ | refine NIdx.bytes hx ?_ | refine NInt.as (((n * 128 : Nat) : Int) ) ( e3) ?_ | refine NInt.as (((x.toNat % 128 : Nat) : Int) ) ( e1) ?_ | refine NInt.as (((n * 128 + x.toNat % 128 : Nat) : Int) ) ( e4) ?_ | refine NInt.as (((x.toNat / 128 * 128 : Nat) : Int) ) ( e2) ?_ | refine NApp.one numC (n * 128 + x.toNat % 128) ?_ | (with_reducible refine NInt.i64 ?_) | (with_reducible refine NInt.u64 ?_) | refine NFact.go (by first | decide | omega | (simp only [List.length_cons, List.length_nil]; omega)) ?_ | (refine NBr.mk (fun hc => ?_) (fun hc => ?_) <;> (have hcP := hc; (try simp only [decide_eq_true_eq, decide_eq_false_iff_not, bne_iff_ne, bne_eq_false_iff_eq, ne_eq, Bool.not_eq_true', Bool.not_eq_false'] at hcP) <;> first | (exfalso; omega) | skip)))); (all_goals (conv => whnf))
      refine ⟨⟨i + 1, ns ++ [n * 128 + x.toNat % 128], (((x.toNat / 128 * 128 : Nat) : Int) != 0), 0⟩, ⟨by show i + 1 ≤ _; omega, by simp; omega, by simp, fun _ => rfl, ?_⟩, by show c.length - (i + 1) < c.length - i; omega, ?_⟩
      ·show numsS false 0 c = numsJ _ (numsS (((x.toNat / 128 * 128 : Nat) : Int) != 0) 0 (c.drop (i + 1)))
       rw [g3]; exact he
      ·((repeat' (first | exact trivial | exact leW_refl _ | refine And.intro ?_ ?_ | exact rfl)))
    ·rw [if_neg c3] at he
     have g3 : (((x.toNat / 128 * 128 : Nat) : Int) != 0) = true := by rw [bne_iff_ne]; omega
     cases b
     ·have g : ((x.toNat : Int) == 128) = false := by
       rw [Bool.not_false, Bool.true_and] at hb1
       rw [hb1, decide_eq_false c1]
      (repeat' ((conv => whnf); first | refine NBr.yes ?_ | refine NBr.neg (by assumption) ?_ | refine NIdx.bytes hx ?_ | refine NInt.as (((n * 128 : Nat) : Int) ) ( e3) ?_ | refine NInt.as (((x.toNat % 128 : Nat) : Int) ) ( e1) ?_ | refine NInt.as (((n * 128 + x.toNat % 128 : Nat) : Int) ) ( e4) ?_ | refine NInt.as (((x.toNat / 128 * 128 : Nat) : Int) ) ( e2) ?_ | (with_reducible refine NInt.i64 ?_) | (with_reducible refine NInt.u64 ?_) | refine NFact.go (by first | decide | omega | (simp only [List.length_cons, List.length_nil]; omega)) ?_ | (refine NBr.mk (fun hc => ?_) (fun hc => ?_) <;> (have hcP := hc; (try simp only [decide_eq_true_eq, decide_eq_false_iff_not, bne_iff_ne, bne_eq_false_iff_eq, ne_eq, Bool.not_eq_true', Bool.not_eq_false'] at hcP) <;> first | (exfalso; omega) | skip)))); (all_goals (conv => whnf))
      refine ⟨⟨i + 1, ns, (((x.toNat / 128 * 128 : Nat) : Int) != 0), n * 128 + x.toNat % 128⟩, ⟨by show i + 1 ≤ _; omega, by show ns.length ≤ i + 1; omega, by show n * 128 + x.toNat % 128 ≤ _; omega, fun h => ?_, ?_⟩, by show c.length - (i + 1) < c.length - i; omega, ?_⟩
      ·rw [show (((x.toNat / 128 * 128 : Nat) : Int) != 0) = false from h] at g3; cases g3
      ·show numsS false 0 c = numsJ _ (numsS (((x.toNat / 128 * 128 : Nat) : Int) != 0) _ (c.drop (i + 1)))
       rw [g3]; exact he
      ·((repeat' (first | exact trivial | exact leW_refl _ | refine And.intro ?_ ?_ | exact rfl)))
     ·(repeat' ((conv => whnf); first | refine NBr.no ?_ | refine NBr.neg (by assumption) ?_ | refine NIdx.bytes hx ?_ | refine NInt.as (((n * 128 : Nat) : Int) ) ( e3) ?_ | refine NInt.as (((x.toNat % 128 : Nat) : Int) ) ( e1) ?_ | refine NInt.as (((n * 128 + x.toNat % 128 : Nat) : Int) ) ( e4) ?_ | refine NInt.as (((x.toNat / 128 * 128 : Nat) : Int) ) ( e2) ?_ | (with_reducible refine NInt.i64 ?_) | (with_reducible refine NInt.u64 ?_) | refine NFact.go (by first | decide | omega | (simp only [List.length_cons, List.length_nil]; omega)) ?_ | (refine NBr.mk (fun hc => ?_) (fun hc => ?_) <;> (have hcP := hc; (try simp only [decide_eq_true_eq, decide_eq_false_iff_not, bne_iff_ne, bne_eq_false_iff_eq, ne_eq, Bool.not_eq_true', Bool.not_eq_false'] at hcP) <;> first | (exfalso; omega) | skip)))); (all_goals (conv => whnf))
      refine ⟨⟨i + 1, ns, (((x.toNat / 128 * 128 : Nat) : Int) != 0), n * 128 + x.toNat % 128⟩, ⟨by show i + 1 ≤ _; omega, by show ns.length ≤ i + 1; omega, by show n * 128 + x.toNat % 128 ≤ _; omega, fun h => ?_, ?_⟩, by show c.length - (i + 1) < c.length - i; omega, ?_⟩
      ·rw [show (((x.toNat / 128 * 128 : Nat) : Int) != 0) = false from h] at g3; cases g3
      ·show numsS false 0 c = numsJ _ (numsS (((x.toNat / 128 * 128 : Nat) : Int) != 0) _ (c.drop (i + 1)))
       rw [g3]; exact he
      ·((repeat' (first | exact trivial | exact leW_refl _ | refine And.intro ?_ ?_ | exact rfl)))
 ·obtain rfl : i = c.length := by omega
  rw [List.drop_length] at he
  cases b
  ·rw [numsS, if_neg (by simp)] at he
   simp only [numsJ, List.append_nil] at he
   cases ns with
   | nil =>
     rw [decA_none (.inr he)]
     (repeat' ((conv => whnf); first | refine NBr.yes ?_ | refine NBr.no ?_ | (refine NBr.mk (fun hc => ?_) (fun hc => ?_) <;> (have hcP := hc; (try simp only [decide_eq_true_eq, decide_eq_false_iff_not] at hcP) <;> first | (exfalso; omega) | skip)))); (all_goals (conv => whnf))
     all_goals (refine NEnd.eq ?_; (repeat' (first | exact leW_refl _ | refine And.intro ?_ ?_ | exact rfl)))
   | cons n0 r =>
     rw [decA_some he]
     obtain ⟨-, k2⟩ := numsS_some c false 0 _ (by omega) (by simp) (fun _ => rfl) he
     obtain ⟨k3, k4, k5⟩ := unroot_right (l := n0 :: r) (by simp) k2
     have hn0 := k2 n0 (by simp)
     rw [List.length_cons] at hnl
     have hT := oidText_any (unroot (n0 :: r)) k4 (by rw [unroot]; simp only [List.length_cons]; omega)
     rw [if_pos k3] at hT
     have h0 : (n0 :: r)[0]? = some n0 := rfl
     have hz : ((((n0 :: r).length : Nat) : Int) == 0) = false := by rw [List.length_cons, beq_eq_false_iff_ne]; omega
     have hm : (if (2 : Int) < ((n0 / 40 : Nat) : Int) then (2 : Int) else ((n0 / 40 : Nat) : Int)) = ((min (n0 / 40) 2 : Nat) : Int) := by
      split <;> omega
     have w1 : IntKind.u32.wrap ((min (n0 / 40) 2 : Nat) : Int) = ((min (n0 / 40) 2 : Nat) : Int) := IntWalk.u32_in _ (by omega)
     generalize hq : min (n0 / 40) 2 = q at hT hm w1
     have hq2 : q ≤ 2 ∧ q * 40 ≤ n0 := by omega
     have hul : unroot (n0 :: r) = q :: (n0 - 40 * q) :: r := by rw [unroot, hq]
     rw [hul] at hT ⊢
     have hdr : ((n0 :: r).drop 1).take ((n0 :: r).length - 1) = r := by simp
     have ar : ∀ m : Int, m = ((n0 - 40 * q : Nat) : Int) → IntKind.u64.wrap m = ((n0 - 40 * q : Nat) : Int) := fun m hm => by rw [hm, IntWalk.u64_in _ (by omega)]
     (repeat' ((conv => whnf); first | refine NBr.no ?_ | refine NIdx.tab (fun _ => rfl) h0 ?_ | refine NSl.tab (fun _ => rfl) 1 (n0 :: r).length r hdr ?_ | refine NStep.go (step_min ((q : Nat) : Int) hm rfl rfl (ltN rfl) rfl rfl) ?_ | refine NInt.as (((n0 - 40 * q : Nat) : Int) ) ( ar _ (by omega)) ?_ | (with_reducible refine NInt.u32 ?_) | (with_reducible refine NInt.u64 ?_) | (with_reducible refine NInt.quoL ?_) | refine NFact.go (by first | decide | omega | (simp only [List.length_cons, List.length_nil]; omega)) ?_ | (refine NBr.mk (fun hc => ?_) (fun hc => ?_) <;> (have hcP := hc; (try simp only [decide_eq_true_eq, decide_eq_false_iff_not] at hcP) <;> first | (exfalso; omega) | skip)))); (all_goals (conv => whnf))
     refine NLoop.go (fun i : Nat => i ≤ r.length) (fun i => r.length - i) (fun i => ⟨[(10, ownT 65 1 158 arcC (q :: (n0 - 40 * q) :: r.take i)), (67, .d (numD true r)), (68, iv r.length), (69, iv i)], [], [(65, ((q :: (n0 - 40 * q) :: r.take i).length, 1, 158))]⟩) 0 (by simp) (by ((repeat' (first | exact trivial | exact leW_refl _ | refine And.intro ?_ ?_ | exact rfl)))) ?_
     intro i hi
     by_cases hik : i < r.length
     ·obtain ⟨m, hm⟩ : ∃ n, r[i]? = some n := ⟨_, List.getElem?_eq_getElem hik⟩
      have hmb := k2 m (by simp [List.mem_of_getElem? hm])
      (repeat' ((conv => whnf); first | refine NIdx.tab (fun _ => rfl) hm ?_ | refine NApp.one arcC m ?_ | (with_reducible refine NInt.i64 ?_) | (with_reducible refine NInt.u32 ?_) | (refine NBr.mk (fun hc => ?_) (fun hc => ?_) <;> (have hcP := hc; (try simp only [decide_eq_true_eq, decide_eq_false_iff_not] at hcP) <;> first | (exfalso; omega) | skip)))); (all_goals (conv => whnf))
      refine ⟨i + 1, by omega, by omega, ?_⟩
      rw [take_snoc hm]
      ((repeat' (first | exact trivial | exact leW_refl _ | refine And.intro ?_ ?_ | exact rfl)))
     ·obtain rfl : i = r.length := by omega
      rw [List.take_length]
      (repeat' ((conv => whnf); first | refine NBr.no ?_ | refine NCall.eq (hT) (by first | rfl | (simp only [AV.gives, AV.give, uns_arc]; first | done | rfl)) ?_ | (refine NBr.mk (fun hc => ?_) (fun hc => ?_) <;> (have hcP := hc; (try simp only [decide_eq_true_eq, decide_eq_false_iff_not] at hcP) <;> first | (exfalso; omega) | skip)))); (all_goals (conv => whnf))
      all_goals (refine NEnd.eq ?_; (repeat' (first | exact leW_refl _ | refine And.intro ?_ ?_ | exact rfl)))
  ·rw [numsS, if_pos rfl] at he
   rw [decA_none (.inl he)]
   (repeat' ((conv => whnf); first | refine NBr.yes ?_ | (refine NBr.mk (fun hc => ?_) (fun hc => ?_) <;> (have hcP := hc; (try simp only [decide_eq_true_eq, decide_eq_false_iff_not] at hcP) <;> first | (exfalso; omega) | skip)))); (all_goals (conv => whnf))
   all_goals (refine NEnd.eq ?_; (repeat' (first | exact leW_refl _ | refine And.intro ?_ ?_ | exact rfl)))
end Go.Proofs.YtblabcopgeobgaaGreatDoor

namespace Go.Proofs.YtblabcopgeobgaaGreatDoor
open Go.RowKit
set_option maxRecDepth 100000
set_option maxHeartbeats 8000000
theorem b128_len (l : Bool) : ∀ (k n : Nat), n < 128 ^ (k + 1) → (b128 l n).length ≤ k + 1 := by
 intro k
 induction k generalizing l with
 | zero => intro n h; rw [b128_small l (by simpa using h)]; simp
 | succ k ih =>
   intro n h
   by_cases h2 : n < 128
   ·rw [b128_small l h2]; simp
   ·have := ih false (n / 128) (by rw [Nat.pow_succ] at h; omega)
    rw [b128_big l h2, List.length_append, List.length_singleton]; omega
theorem and127w (n : Nat) (hn : n ≤ 4294967295) : IntKind.u32.wrap ((BitVec.ofInt IntKind.u32.bits (n : Int) &&& BitVec.ofInt IntKind.u32.bits 127).toNat : Int) = ((n % 128 : Nat) : Int) := by
 rw [show (127 : Int) = ((127 : Nat) : Int) from rfl, BitVec.ofInt_natCast, BitVec.ofInt_natCast, BitVec.toNat_and, BitVec.toNat_ofNat, BitVec.toNat_ofNat]
 have hb : 2 ^ IntKind.u32.bits = 4294967296 := by decide
 rw [hb, Nat.mod_eq_of_lt (by omega), Nat.mod_eq_of_lt (by omega)]
 have := Nat.and_two_pow_sub_one_eq_mod n 7
 rw [show 2 ^ 7 - 1 = 127 from rfl] at this
 rw [this, IntWalk.u32_in _ (by omega)]
theorem or128w (m : Nat) (hm : m < 128) : IntKind.u32.wrap ((BitVec.ofInt IntKind.u32.bits (m : Int) ||| BitVec.ofInt IntKind.u32.bits 128).toNat : Int) = ((m + 128 : Nat) : Int) := by
 have h : ∀ x : Fin 128, IntKind.u32.wrap ((BitVec.ofInt IntKind.u32.bits (x.1 : Int) ||| BitVec.ofInt IntKind.u32.bits 128).toNat : Int) = ((x.1 + 128 : Nat) : Int) := by decide +kernel
 exact h ⟨m, hm⟩
theorem shr7w (n : Nat) : (n : Int).fdiv (2 ^ (min (Int.toNat 7) IntKind.u32.bits)) = ((n / 128 : Nat) : Int) := shr_nat (k := 7) n rfl
def hiB (q : Nat) : List UInt8 := if q = 0 then [] else b128 false q
theorem b128_hi (l : Bool) (n : Nat) : b128 l n = hiB (n / 128) ++ [UInt8.ofNat (n % 128 + if l then 0 else 128)] := by
 unfold hiB
 by_cases h : n < 128
 ·rw [b128_small l h, if_pos (show n / 128 = 0 by omega)]; rfl
 ·rw [b128_big l h, if_neg (show ¬ n / 128 = 0 by omega)]
theorem put_pre (n : Nat) (hn : n ≤ 4294967295) {c : Code} (hc : Tryz.f110.body = some c) (vs : List Value) (hv : argsV [wv n, .ptr 6 0] vs) (W : World) (fp0 z0 : Nat → Nat → Prop) :
 seqVC Tryz.prog ⟨W, fp0, 26, fun _ => none, z0⟩ tab (takeC 3 c) (fun tm bx tk => PreK vs [1] 3 (b128 true n).length 1 5 (bytesL (b128 true n)) ⟨tm, bx, tk⟩) (initV 0 vs) [] [] := by
 have hc' := Option.some.inj hc
 match vs, hv with
 | [v0, v1], hv =>
   obtain ⟨rfl, -⟩ := hv
   subst hc'
   have hL := b128_len true 4 n (by omega)
   have e1 := and127w n hn
   have e2 := shr7w n
   (repeat' ((conv => whnf); first | refine NInt.as (((n % 128 : Nat) : Int) ) ( e1) ?_ | refine NInt.as (((n / 128 : Nat) : Int) ) ( e2) ?_ | (with_reducible refine NInt.oct ?_) | refine NFact.go (by first | decide | omega | (simp only [List.length_cons, List.length_nil]; omega)) ?_)); (all_goals (conv => whnf))
   refine NLoop.go (fun p : Nat × List UInt8 => p.1 ≤ 4294967295 ∧ 0 < p.2.length ∧ hiB p.1 ++ p.2.reverse = b128 true n) (fun p => p.1) (fun p => ⟨[(0, wv p.1), (1, .d (.v v1)), (3, ownB 7 5 p.2)], [], [(7, (p.2.length, 1, 5))]⟩) (n / 128, [UInt8.ofNat (n % 128)]) ⟨by show n / 128 ≤ _; omega, by simp, (by rw [b128_hi]; rfl)⟩ (by ((repeat' (first | exact trivial | exact leW_refl _ | refine And.intro ?_ ?_ | exact rfl)))) ?_
   rintro ⟨q, acc⟩ ⟨hq, ha, he⟩
   simp only [] at hq ha he
   have hal : acc.length ≤ 5 := by
    have := congrArg List.length he
    simp only [List.length_append, List.length_reverse] at this
    omega
   by_cases h0 : q = 0
   ·subst h0
    rw [hiB, if_pos rfl, List.nil_append] at he
    (repeat' ((conv => whnf); refine NBr.no ?_)); (all_goals (conv => whnf))
    refine NStep.go (step_rev (l := acc) (tm' := [(1, .d (.v v1)), (3, ownB 7 5 acc.reverse)]) Tryz.laysRev (enters Tryz.func111 (by kernel_rfl) rfl) rfl rfl (ltN rfl) rfl rfl ha (by omega) (.v rfl (.own rfl .nil)) rfl) ?_
    (all_goals (conv => whnf))
    rw [he]
    exact ⟨7, rfl, rfl, ⟨v1, rfl, rfl⟩, trivial⟩
   ·have hq2 : hiB q = hiB (q / 128) ++ [UInt8.ofNat (q % 128 + 128)] := by
     conv => lhs; rw [hiB, if_neg h0, b128_hi]
     rfl
    have e3 := and127w q hq
    have e4 := or128w (q % 128) (by omega)
    have e5 := shr7w q
    rw [hq2] at he
    (repeat' ((conv => whnf); first | refine NInt.as (((q % 128 : Nat) : Int) ) ( e3) ?_ | refine NInt.as (((q % 128 + 128 : Nat) : Int) ) ( e4) ?_ | refine NInt.as (((q / 128 : Nat) : Int) ) ( e5) ?_ | (with_reducible refine NInt.oct ?_) | refine NApp.byte (_) ?_ | refine NFact.go (by first | decide | omega | (simp only [List.length_cons, List.length_nil]; omega)) ?_ | (refine NBr.dec (fun hc hcP => ?_) (fun hc hcP => ?_) <;> try (exfalso; omega)))); (all_goals (conv => whnf))
    refine ⟨(q / 128, acc ++ [UInt8.ofNat (q % 128 + 128)]), ⟨by show q / 128 ≤ _; omega, by simp, ?_⟩, by show q / 128 < q; omega, ?_⟩
    ·show hiB (q / 128) ++ (acc ++ [UInt8.ofNat (q % 128 + 128)]).reverse = _
     rw [← he]; simp
    ·((repeat' (first | exact trivial | exact leW_refl _ | refine And.intro ?_ ?_ | exact rfl)))
theorem arcsS_len {s : List UInt8} {a : List Nat} (h : arcsS s = some a) : a.length ≤ s.length + 1 := by
 unfold arcsS at h
 split at h
 ·rename_i a' h1
  split at h
  ·cases h
   rw [arcsL_len h1]; exact dots_len s
  ·cases h
 ·cases h
theorem flat128_len : ∀ (l : List Nat), (∀ n ∈ l, n ≤ 4294967295) → (l.flatMap (b128 true)).length ≤ 5 * l.length
 | [], _ => by simp
 | n :: r, h => by
   have h1 := b128_len true 4 n (by have := h n (by simp); omega)
   have h2 := flat128_len r (fun m hm => h m (by simp [hm]))
   rw [List.flatMap_cons, List.length_append, List.length_cons]; omega
theorem oidEnc_none (s : List UInt8) (hs : s.length ≤ 1000000) (h : arcsS s = none) : ACalls Tryz.prog 78 [sx s] (fun r => r = .tup [.d (bytesD true []), iv 8]) := by
 have hA := oidArcs_any s hs
 unfold arcsA at hA
 rw [h] at hA
 refine acalls_vc 40 _ tabOk mixed Tryz.func78 rfl (by kernel_rfl) rfl rfl rfl rfl fun W0 fp0 z0 => ?_
 (repeat' ((conv => whnf); first | refine NBr.yes ?_ | refine NCall.eq (hA) (by rfl) ?_)); (all_goals (conv => whnf))
 all_goals (refine NEnd.eq ?_; (repeat' (first | exact trivial | exact leW_refl _ | refine And.intro ?_ ?_ | exact rfl)))
theorem oidEnc_some (s : List UInt8) (hs : s.length ≤ 1000000) {a : List Nat} (h : arcsS s = some a) : ACalls Tryz.prog 78 [sx s] (fun r => r = .tup [.d (bytesD true (encO a)), iv 0]) := by
 have hA := oidArcs_any s hs
 unfold arcsA at hA
 rw [h] at hA
 obtain ⟨k1, k2, k3⟩ := arcsS_some h
 obtain ⟨x, y, r, rfl, x2, xy, y2⟩ := rightB_ne k1
 have h0 : (x :: y :: r)[0]? = some x := rfl
 have h1 : (x :: y :: r)[1]? = some y := rfl
 have hxy : 40 * x + y ≤ 4294967295 := by
  by_cases hx : x < 2
  ·have := xy hx; omega
  ·omega
 refine acalls_vc 40 _ tabOk mixed Tryz.func78 rfl (by kernel_rfl) rfl rfl rfl rfl fun W0 fp0 z0 => ?_
 have e1 : ∀ z : Int, z = ((40 * x + y : Nat) : Int) → IntKind.u32.wrap z = ((40 * x + y : Nat) : Int) := fun z hz => by rw [hz, IntWalk.u32_in _ (by omega)]
 have hdr : ((x :: y :: r).drop 2).take ((x :: y :: r).length - 2) = r := by simp
 have hL := b128_len true 4 (40 * x + y) (by omega)
 have hal := arcsS_len h
 simp only [List.length_cons] at hal
 (repeat' ((conv => whnf); first | refine NBr.no ?_ | refine NCall.eq (hA) (by rfl) ?_ | refine NIdx.tab (fun _ => rfl) h0 ?_ | refine NIdx.tab (fun _ => rfl) h1 ?_ | refine NInt.as (((40 * x + y : Nat) : Int) ) ( e1 _ (by omega)) ?_ | (with_reducible refine NInt.u32 ?_) | refine NFact.go ⟨by decide +kernel, by kernel_rfl⟩ ?_)); (all_goals (conv => whnf))
 refine nstep_preC 3 3 200 (b128 true (40 * x + y)).length 1 5 (bytesL (b128 true (40 * x + y))) [1] 100 26 #[] tabOk mixed rfl rfl rfl rfl Tryz.func110 rfl (by kernel_rfl) rfl rfl rfl rfl rfl (fun vs hv W fp0 z0 => put_pre (40 * x + y) hxy rfl vs hv W fp0 z0) (fun gh => ?_)
 (repeat' ((conv => whnf); first | refine NSl.tab (fun _ => rfl) 2 (x :: y :: r).length r hdr ?_ | (with_reducible refine NApp.bytes0 ?_))); (all_goals (conv => whnf))
 refine NLoop.go (fun i : Nat => i ≤ r.length) (fun i => r.length - i) (fun i => ⟨[(6, .ptr 6 0), (7, .cl 110 [] [.ptr 6 0]), (29, .d (arcD true r)), (30, iv r.length), (31, iv i)], [(6, [ownB 125 5 (b128 true (40 * x + y) ++ (r.take i).flatMap (b128 true))])], [(125, ((b128 true (40 * x + y) ++ (r.take i).flatMap (b128 true)).length, 1, 5))]⟩) 0 (by simp) (by rw [List.take_zero, List.flatMap_nil, List.append_nil]; ((repeat' (first | exact trivial | exact leW_refl _ | refine And.intro ?_ ?_ | exact rfl)))) ?_
 intro i hi
 by_cases hik : i < r.length
 ·obtain ⟨m, hm⟩ : ∃ n, r[i]? = some n := ⟨_, List.getElem?_eq_getElem hik⟩
  have hmb := k2 m (by simp [List.mem_of_getElem? hm])
  have hLm := b128_len true 4 m (by omega)
  have hLf := flat128_len (r.take i) (fun n hn => k2 n (by simp [List.mem_of_mem_take hn]))
  rw [List.length_take] at hLf
  have hLa : (b128 true (40 * x + y) ++ (r.take i).flatMap (b128 true)).length ≤ 6000000 := by rw [List.length_append]; omega
  have hsn : b128 true (40 * x + y) ++ (r.take (i + 1)).flatMap (b128 true) = b128 true (40 * x + y) ++ (r.take i).flatMap (b128 true) ++ b128 true m := by
   rw [take_snoc hm, List.flatMap_append, List.append_assoc]; simp
  (repeat' ((conv => whnf); first | refine NIdx.tab (fun _ => rfl) hm ?_ | (refine NBr.dec (fun hc hcP => ?_) (fun hc hcP => ?_) <;> try (exfalso; omega)))); (all_goals (conv => whnf))
  refine nstep_preC 3 3 200 (b128 true m).length 1 5 (bytesL (b128 true m)) [1] 100 26 #[] tabOk mixed rfl rfl rfl rfl Tryz.func110 rfl (by kernel_rfl) rfl rfl rfl rfl rfl (fun vs hv W fp0 z0 => put_pre m hmb rfl vs hv W fp0 z0) (fun gh => ?_)
  (repeat' ((conv => whnf); first | (with_reducible refine NInt.i64 ?_) | (with_reducible refine NApp.bytes ?_))); (all_goals (conv => whnf))
  refine ⟨i + 1, by omega, by omega, ?_⟩
  rw [hsn]
  ((repeat' (first | exact trivial | exact leW_refl _ | refine And.intro ?_ ?_ | exact rfl)))
 ·obtain rfl : i = r.length := by omega
  rw [List.take_length]
  (repeat' ((conv => whnf); (refine NBr.dec (fun hc hcP => ?_) (fun hc hcP => ?_) <;> try (exfalso; omega)))); (all_goals (conv => whnf))
  all_goals (refine NEnd.eq ?_; (repeat' (first | exact trivial | exact leW_refl _ | refine And.intro ?_ ?_ | exact rfl)))
  all_goals rfl
theorem oidEnc_any (s : List UInt8) (hs : s.length ≤ 1000000) : ACalls Tryz.prog 78 [sx s] (fun r => r = .tup [.d (bytesD true (oidE s)), iv (oidC s)]) := by
 unfold oidE oidC
 cases h : arcsS s with
 | some a => exact oidEnc_some s hs h
 | none => exact oidEnc_none s hs h
end Go.Proofs.YtblabcopgeobgaaGreatDoor

namespace Go.Proofs.YtblabcopgeobgaaGreatDoor
open Go.RowKit
set_option maxRecDepth 100000
set_option maxHeartbeats 8000000
theorem nslsTo {l : List UInt8} {lo hi : Int} {A : List UInt8 → Prop} (a b : Nat) (r : List UInt8) (e : (l.drop a).take (b - a) = r) (k : A r) (h : lo = a ∧ hi = b ∧ a ≤ b ∧ b ≤ l.length := by (repeat' apply And.intro) <;> first | omega | rfl | (simp only [List.length_cons, List.length_nil, List.length_append, List.length_take, List.length_drop] at *; omega)) : NSlS l lo hi A := ⟨a, b, _, h.1, h.2.1, h.2.2.1, h.2.2.2, e, k⟩
theorem dig10 (k : Nat) (hk : k < 10) : (([48, 49, 50, 51, 52, 53, 54, 55, 56, 57] : List UInt8).drop k).take (k + 1 - k) = [UInt8.ofNat (48 + k)] := by
 have h : ∀ k : Fin 10, (([48, 49, 50, 51, 52, 53, 54, 55, 56, 57] : List UInt8).drop k.1).take (k.1 + 1 - k.1) = [UInt8.ofNat (48 + k.1)] := by decide +kernel
 exact h ⟨k, hk⟩
theorem b128_len0 (l : Bool) : ∀ (k n : Nat), n < 128 ^ (k + 1) → (b128 l n).length ≤ k + 1 := by
 intro k
 induction k generalizing l with
 | zero => intro n h; rw [b128_small l (by simpa using h)]; simp
 | succ k ih =>
   intro n h
   by_cases h2 : n < 128
   ·rw [b128_small l h2]; simp
   ·have := ih false (n / 128) (by rw [Nat.pow_succ] at h; omega)
    rw [b128_big l h2, List.length_append, List.length_singleton]; omega
theorem rDigits_any (n : Nat) : n ≤ 4294967295 → ACalls Tryz.prog 137 [uv n] (fun r => r = sx (Lib.decDigits n)) := by
 induction n using Nat.strongRecOn with
 | _ n ih =>
   intro hn
   have hd := dig10 (n % 10) (by omega)
   by_cases h : n < 10
   ·have g : decide ((n : Int) < 10) = true := decide_eq_true (by omega)
    have e : Lib.decDigits n = [UInt8.ofNat (48 + n % 10)] := by rw [Lib.decDigits, dif_pos h, Nat.mod_eq_of_lt h]
    rw [e]
    refine acalls_vc 18 _ tabOk mixed Tryz.func137 rfl (by kernel_rfl) rfl rfl rfl rfl fun W0 fp0 z0 => ?_
    (repeat' ((conv => whnf); first | refine NBr.pos (by assumption) ?_ | (refine nslsTo (n % 10) (n % 10 + 1) _ hd ?_) | (with_reducible refine NInt.u64 ?_) | (with_reducible refine NInt.remL ?_) | refine NFact.go (by first | decide | omega | (simp only [List.length_cons, List.length_nil]; omega)) ?_)); (all_goals (conv => whnf))
    all_goals (refine NEnd.eq ?_; (repeat' (first | exact leW_refl _ | refine And.intro ?_ ?_ | exact rfl)))
   ·have g : decide ((n : Int) < 10) = false := decide_eq_false (by omega)
    have e : Lib.decDigits n = Lib.decDigits (n / 10) ++ [UInt8.ofNat (48 + n % 10)] := by rw [Lib.decDigits, dif_neg h]
    have hI := ih (n / 10) (by omega) (by omega)
    have hl := dec_len (n / 10) (by omega)
    rw [e]
    refine acalls_vc 18 _ tabOk mixed Tryz.func137 rfl (by kernel_rfl) rfl rfl rfl rfl fun W0 fp0 z0 => ?_
    (repeat' ((conv => whnf); first | refine NBr.neg (by assumption) ?_ | (refine nslsTo (n % 10) (n % 10 + 1) _ hd ?_) | refine NCall.eq (hI) (by rfl) ?_ | (with_reducible refine NInt.u64 ?_) | (with_reducible refine NInt.quoL ?_) | (with_reducible refine NInt.remL ?_) | refine NFact.go (by first | decide | omega | (simp only [List.length_cons, List.length_nil]; omega)) ?_)); (all_goals (conv => whnf))
    all_goals (refine NEnd.eq ?_; (repeat' (first | exact leW_refl _ | refine And.intro ?_ ?_ | exact rfl)))
def scanS : Nat → List UInt8 → Option Nat
 | a, [] => some a
 | a, c :: r => if c.toNat < 48 ∨ c.toNat > 57 ∨ a > 4294967295 then none else scanS (a * 10 + (c.toNat - 48)) r
def numN (s : List UInt8) : Nat := (scanS 0 s).getD 0
def numB (s : List UInt8) : Bool := match scanS 0 s with
 | some n => decide (s ≠ []) && (decide (n ≤ 4294967295) && decide (Lib.decDigits n = s))
 | none => false
theorem scanS_num : ∀ (l : List UInt8) (a : Nat), (∀ b ∈ l, 48 ≤ b.toNat ∧ b.toNat ≤ 57) → numS a l ≤ 4294967295 → scanS a l = some (numS a l)
 | [], _, _, _ => by rw [scanS, numS_nil]
 | c :: r, a, h1, h2 => by
   have hc := h1 c (by simp)
   have hg := numS_ge r (a * 10 + (c.toNat - 48))
   rw [numS_cons] at h2 ⊢
   rw [scanS, if_neg (by omega)]
   exact scanS_num r _ (fun b hb => h1 b (by simp [hb])) h2
theorem arcS_num (s : List UInt8) : arcS s = if numB s then some (numN s) else none := by
 cases h : arcS s with
 | some n =>
   obtain ⟨h1, h2⟩ := arcS_some h
   have hs := scanS_num (Lib.decDigits n) 0 (dec_all n) (by rw [numS_dec]; exact h1)
   rw [numS_dec, h2] at hs
   have hne : s ≠ [] := by rw [← h2]; exact dec_ne n
   unfold numB numN
   rw [hs]
   simp only [decide_eq_true hne, decide_eq_true h1, decide_eq_true h2, Bool.and_self, if_true, Option.getD_some]
 | none =>
   rw [if_neg]
   intro hb
   unfold numB at hb
   split at hb
   ·rename_i n hn
    simp only [Bool.and_eq_true, decide_eq_true_eq] at hb
    have := arcS_dec hb.2.1
    rw [hb.2.2, h] at this
    cases this
   ·cases hb
theorem rNumber_any (s : List UInt8) (hs : s.length ≤ 1000000) : ACalls Tryz.prog 114 [sx s] (fun r => r = .tup [uv (numN s), bv (numB s)]) := by
 refine acalls_vc 47 _ tabOk mixed Tryz.func114 rfl (by kernel_rfl) rfl rfl rfl rfl fun W0 fp0 z0 => ?_
 (all_goals (conv => whnf))
 refine NLoop.go (fun p : Nat × Nat => p.1 ≤ s.length ∧ p.2 ≤ 42949672959 ∧ scanS 0 s = scanS p.2 (s.drop p.1)) (fun p => s.length - p.1) (fun p => ⟨[(0, sx s), (4, uv p.2), (5, iv p.1)], [], []⟩) (0, 0) ⟨by simp, by simp, rfl⟩ (by ((repeat' (first | exact trivial | exact leW_refl _ | refine And.intro ?_ ?_)))) ?_
 rintro ⟨i, n⟩ ⟨hi, hn, he⟩
 simp only at hi hn he
 by_cases hik : i < s.length
 ·obtain ⟨c, hx⟩ : ∃ p, s[i]? = some p := ⟨_, List.getElem?_eq_getElem hik⟩
  have hcl := c.toNat_lt
  rw [drop_get hx, scanS] at he
  by_cases h1 : c.toNat < 48 ∨ c.toNat > 57 ∨ n > 4294967295
  ·rw [if_pos h1] at he
   rw [show numN s = 0 by unfold numN; rw [he]; rfl, show numB s = false by unfold numB; rw [he]]
   by_cases d1 : c.toNat < 48
   ·have g1 : decide ((c.toNat : Int) < 48) = true := decide_eq_true (by omega)
    (repeat' ((conv => whnf); first | refine NBr.yes ?_ | refine NBr.pos (by assumption) ?_ | refine NIdxS.at hx ?_ | (refine NBr.dec (fun hc hcP => ?_) (fun hc hcP => ?_) <;> try (exfalso; omega)))); (all_goals (conv => whnf))
    all_goals (refine NEnd.eq ?_; (repeat' (first | exact leW_refl _ | refine And.intro ?_ ?_ | exact rfl)))
   ·have g1 : decide ((c.toNat : Int) < 48) = false := decide_eq_false (by omega)
    by_cases d2 : c.toNat > 57
    ·have g2 : decide ((c.toNat : Int) > 57) = true := decide_eq_true (by omega)
     (repeat' ((conv => whnf); first | refine NBr.yes ?_ | refine NBr.no ?_ | refine NBr.pos (by assumption) ?_ | refine NBr.neg (by assumption) ?_ | refine NIdxS.at hx ?_ | (refine NBr.dec (fun hc hcP => ?_) (fun hc hcP => ?_) <;> try (exfalso; omega)))); (all_goals (conv => whnf))
     all_goals (refine NEnd.eq ?_; (repeat' (first | exact leW_refl _ | refine And.intro ?_ ?_ | exact rfl)))
    ·have g2 : decide ((c.toNat : Int) > 57) = false := decide_eq_false (by omega)
     have g3 : decide ((n : Int) > 4294967295) = true := decide_eq_true (by omega)
     (repeat' ((conv => whnf); first | refine NBr.no ?_ | refine NBr.pos (by assumption) ?_ | refine NBr.neg (by assumption) ?_ | refine NIdxS.at hx ?_ | (refine NBr.dec (fun hc hcP => ?_) (fun hc hcP => ?_) <;> try (exfalso; omega)))); (all_goals (conv => whnf))
     all_goals (refine NEnd.eq ?_; (repeat' (first | exact leW_refl _ | refine And.intro ?_ ?_ | exact rfl)))
  ·rw [if_neg h1] at he
   have g1 : decide ((c.toNat : Int) < 48) = false := decide_eq_false (by omega)
   have g2 : decide ((c.toNat : Int) > 57) = false := decide_eq_false (by omega)
   have g3 : decide ((n : Int) > 4294967295) = false := decide_eq_false (by omega)
   have e1 : ∀ z : Int, z = ((n * 10 + (c.toNat - 48) : Nat) : Int) → IntKind.u64.wrap z = ((n * 10 + (c.toNat - 48) : Nat) : Int) := fun z hz => by rw [hz, IntWalk.u64_in _ (by omega)]
   (repeat' ((conv => whnf); first | refine NBr.no ?_ | refine NBr.neg (by assumption) ?_ | refine NIdxS.at hx ?_ | refine NInt.as (((n * 10 + (c.toNat - 48) : Nat) : Int) ) ( e1 _ (by omega)) ?_ | (with_reducible refine NInt.i64 ?_) | (with_reducible refine NInt.u8 ?_) | (with_reducible refine NInt.u64 ?_) | (refine NBr.dec (fun hc hcP => ?_) (fun hc hcP => ?_) <;> try (exfalso; omega)))); (all_goals (conv => whnf))
   refine ⟨(i + 1, n * 10 + (c.toNat - 48)), ⟨by show i + 1 ≤ _; omega, by show n * 10 + (c.toNat - 48) ≤ _; omega, he⟩, by show s.length - (i + 1) < s.length - i; omega, ?_⟩
   ((repeat' (first | exact trivial | exact leW_refl _ | refine And.intro ?_ ?_)))
 ·obtain rfl : i = s.length := by omega
  rw [List.drop_length, scanS] at he
  rw [show numN s = n by unfold numN; rw [he]; rfl, show numB s = (decide (s ≠ []) && (decide (n ≤ 4294967295) && decide (Lib.decDigits n = s))) by unfold numB; rw [he]]
  have z0 : (s != []) = decide (s ≠ []) := by cases s <;> rfl
  by_cases d1 : s = []
  ·have g1 : (s != []) = false := by rw [d1]; rfl
   rw [show decide (s ≠ []) = false from decide_eq_false (by simp [d1])]
   (repeat' ((conv => whnf); first | refine NBr.no ?_ | refine NBr.neg (by assumption) ?_ | (refine NBr.dec (fun hc hcP => ?_) (fun hc hcP => ?_) <;> try (exfalso; omega)))); (all_goals (conv => whnf))
   all_goals (refine NEnd.eq ?_; (repeat' (first | exact leW_refl _ | refine And.intro ?_ ?_ | exact rfl)))
  ·have g1 : (s != []) = true := by rw [z0]; exact decide_eq_true d1
   rw [show decide (s ≠ []) = true from decide_eq_true d1, Bool.true_and]
   by_cases d2 : n ≤ 4294967295
   ·have g2 : decide ((n : Int) ≤ 4294967295) = true := decide_eq_true (by omega)
    rw [decide_eq_true d2, Bool.true_and, ← beq_l]
    have hD := rDigits_any n d2
    (repeat' ((conv => whnf); first | refine NBr.yes ?_ | refine NBr.pos (by assumption) ?_ | refine NCall.eq (hD) (by rfl) ?_ | (refine NBr.dec (fun hc hcP => ?_) (fun hc hcP => ?_) <;> try (exfalso; omega)))); (all_goals (conv => whnf))
    all_goals (refine NEnd.eq ?_; (repeat' (first | exact leW_refl _ | refine And.intro ?_ ?_ | exact rfl)))
   ·have g2 : decide ((n : Int) ≤ 4294967295) = false := decide_eq_false (by omega)
    rw [decide_eq_false d2, Bool.false_and]
    (repeat' ((conv => whnf); first | refine NBr.yes ?_ | refine NBr.no ?_ | refine NBr.pos (by assumption) ?_ | refine NBr.neg (by assumption) ?_ | (refine NBr.dec (fun hc hcP => ?_) (fun hc hcP => ?_) <;> try (exfalso; omega)))); (all_goals (conv => whnf))
    all_goals (refine NEnd.eq ?_; (repeat' (first | exact leW_refl _ | refine And.intro ?_ ?_ | exact rfl)))
theorem rRight_any (a : List Nat) (ha : a.length ≤ 1000000000) : ACalls Tryz.prog 115 [.d (arcD false a)] (fun r => r = bv (rightB a)) := by
 match a, ha with
 | [], _ =>
   refine acalls_vc 34 _ tabOk mixed Tryz.func115 rfl (by kernel_rfl) rfl rfl rfl rfl fun W0 fp0 z0 => ?_
   (repeat' ((conv => whnf); refine NBr.yes ?_)); (all_goals (conv => whnf))
   all_goals (refine NEnd.eq ?_; (repeat' (first | exact leW_refl _ | refine And.intro ?_ ?_ | exact rfl)))
 | [x], _ =>
   refine acalls_vc 34 _ tabOk mixed Tryz.func115 rfl (by kernel_rfl) rfl rfl rfl rfl fun W0 fp0 z0 => ?_
   (repeat' ((conv => whnf); refine NBr.yes ?_)); (all_goals (conv => whnf))
   all_goals (refine NEnd.eq ?_; (repeat' (first | exact leW_refl _ | refine And.intro ?_ ?_ | exact rfl)))
 | x :: y :: r, ha =>
   have h0 : (x :: y :: r)[0]? = some x := rfl
   have h1 : (x :: y :: r)[1]? = some y := rfl
   simp only [List.length_cons] at ha
   by_cases c1 : x ≤ 2
   ·have g1 : decide ((x : Int) > 2) = false := decide_eq_false (by omega)
    by_cases c2 : x < 2
    ·have g2 : decide ((x : Int) < 2) = true := decide_eq_true (by omega)
     have g3 : ((x : Int) == 2) = false := by rw [beq_eq_false_iff_ne]; omega
     have e : rightB (x :: y :: r) = decide ((y : Int) < 40) := by
      rw [rightB, if_pos c2, decide_eq_true c1, Bool.true_and, decide_eq_decide]; omega
     rw [e]
     cases g4 : decide ((y : Int) < 40)
     ·refine acalls_vc 34 _ tabOk mixed Tryz.func115 rfl (by kernel_rfl) rfl rfl rfl rfl fun W0 fp0 z0 => ?_
      (repeat' ((conv => whnf); first | refine NBr.yes ?_ | refine NBr.no ?_ | refine NBr.pos (by assumption) ?_ | refine NBr.neg (by assumption) ?_ | refine NIdx.tab (fun _ => rfl) h0 ?_ | refine NIdx.tab (fun _ => rfl) h1 ?_)); (all_goals (conv => whnf))
      all_goals (refine NEnd.eq ?_; (repeat' (first | exact leW_refl _ | refine And.intro ?_ ?_ | exact rfl)))
     ·refine acalls_vc 34 _ tabOk mixed Tryz.func115 rfl (by kernel_rfl) rfl rfl rfl rfl fun W0 fp0 z0 => ?_
      (repeat' ((conv => whnf); first | refine NBr.yes ?_ | refine NBr.no ?_ | refine NBr.pos (by assumption) ?_ | refine NBr.neg (by assumption) ?_ | refine NIdx.tab (fun _ => rfl) h0 ?_ | refine NIdx.tab (fun _ => rfl) h1 ?_)); (all_goals (conv => whnf))
      all_goals (refine NEnd.eq ?_; (repeat' (first | exact leW_refl _ | refine And.intro ?_ ?_ | exact rfl)))
    ·have g2 : decide ((x : Int) < 2) = false := decide_eq_false (by omega)
     have g3 : ((x : Int) == 2) = true := by rw [beq_iff_eq]; omega
     have e : rightB (x :: y :: r) = decide ((y : Int) ≤ 4294967215) := by
      rw [rightB, if_neg c2, decide_eq_true c1, Bool.true_and, decide_eq_decide]; omega
     rw [e]
     refine acalls_vc 34 _ tabOk mixed Tryz.func115 rfl (by kernel_rfl) rfl rfl rfl rfl fun W0 fp0 z0 => ?_
     (repeat' ((conv => whnf); first | refine NBr.yes ?_ | refine NBr.no ?_ | refine NBr.pos (by assumption) ?_ | refine NBr.neg (by assumption) ?_ | refine NIdx.tab (fun _ => rfl) h0 ?_ | refine NIdx.tab (fun _ => rfl) h1 ?_)); (all_goals (conv => whnf))
     all_goals (refine NEnd.eq ?_; (repeat' (first | exact leW_refl _ | refine And.intro ?_ ?_ | exact rfl)))
   ·have g1 : decide ((x : Int) > 2) = true := decide_eq_true (by omega)
    have e : rightB (x :: y :: r) = false := by rw [rightB, decide_eq_false c1]; rfl
    rw [e]
    refine acalls_vc 34 _ tabOk mixed Tryz.func115 rfl (by kernel_rfl) rfl rfl rfl rfl fun W0 fp0 z0 => ?_
    (repeat' ((conv => whnf); first | refine NBr.no ?_ | refine NBr.pos (by assumption) ?_ | refine NIdx.tab (fun _ => rfl) h0 ?_)); (all_goals (conv => whnf))
    all_goals (refine NEnd.eq ?_; (repeat' (first | exact leW_refl _ | refine And.intro ?_ ?_ | exact rfl)))
theorem numsJ_some {a : List Nat} {o : Option (List Nat)} {n : Nat} : numsJ a (match some n, o with | some n, some l => some (n :: l) | _, _ => none) = numsJ (a ++ [n]) o := by
 cases o with
 | none => rfl
 | some l => show some (a ++ n :: l) = some (a ++ [n] ++ l); simp
theorem numsJ_nil (o : Option (List Nat)) : numsJ [] o = o := by cases o <;> rfl
theorem cut_snoc {s : List UInt8} {i frm : Nat} {c : UInt8} (h : s[i]? = some c) (hf : frm ≤ i) : (s.drop frm).take (i + 1 - frm) = (s.drop frm).take (i - frm) ++ [c] := by
 have : (s.drop frm)[i - frm]? = some c := by rw [List.getElem?_drop, show frm + (i - frm) = i by omega]; exact h
 rw [show i + 1 - frm = (i - frm) + 1 by omega, take_snoc this]
def restS (s : List UInt8) (frm i : Nat) : List (List UInt8) := if i ≤ s.length then dotsA ((s.drop frm).take (i - frm)) (s.drop i) else []
theorem rArcs_any (s : List UInt8) (hs : s.length ≤ 900000) : ACalls Tryz.prog 81 [sx s] (fun r => r = arcsA s) := by
 unfold arcsA arcsS
 have hd0 : arcsL (dots s) = numsJ [] (arcsL (restS s 0 0)) := by
  rw [numsJ_nil]; unfold restS; rw [if_pos (by omega)]
  show _ = arcsL (dotsA [] s)
  rw [dotsA_nil]
 generalize arcsL (dots s) = q at hd0 ⊢
 refine acalls_vc 46 _ tabOk mixed Tryz.func81 rfl (by kernel_rfl) rfl rfl rfl rfl fun W0 fp0 z0 => ?_
 (all_goals (conv => whnf))
 refine NLoop.goA [.s 4 1 158] (fun p : Nat × Nat × List Nat => p.1 ≤ s.length + 1 ∧ p.2.1 ≤ p.1 ∧ p.2.2.length ≤ p.1 ∧ q = numsJ p.2.2 (arcsL (restS s p.2.1 p.1))) (fun p => s.length + 1 - p.1) (fun p => ⟨[(0, sx s), (4, ownT 4 1 158 arcC p.2.2), (5, iv p.2.1), (6, iv p.1)], [], [(4, (p.2.2.length, 1, 158))]⟩) (0, 0, []) ⟨by simp, by simp, by simp, hd0⟩ (by ((repeat' (first | exact trivial | exact leW_refl _ | refine And.intro ?_ ?_ | exact rfl)))) ?_
 rintro ⟨i, frm, ns⟩ ⟨hi, hfi, hnl, he⟩
 simp only at hi hfi hnl he
 by_cases hik : i ≤ s.length
 ·have gi : decide ((i : Int) ≤ s.length) = true := decide_eq_true (by omega)
  have hN := rNumber_any ((s.drop frm).take (i - frm)) (by rw [List.length_take, List.length_drop]; omega)
  have hA := arcS_num ((s.drop frm).take (i - frm))
  unfold restS at he
  rw [if_pos hik] at he
  by_cases hil : i < s.length
  ·have gl : decide ((i : Int) < s.length) = true := decide_eq_true (by omega)
   obtain ⟨c, hx⟩ : ∃ p, s[i]? = some p := ⟨_, List.getElem?_eq_getElem hil⟩
   rw [drop_get hx, dotsA] at he
   by_cases hd : c = 46
   ·subst hd
    have gd : (((46 : UInt8).toNat : Int) != 46) = false := by decide
    rw [if_pos rfl, arcsL, hA] at he
    cases hb : numB ((s.drop frm).take (i - frm))
    ·rw [hb] at he hN
     have he' : q = none := by rw [he]; rfl
     subst he'
     (repeat' ((conv => whnf); first | refine NBr.yes ?_ | refine NBr.no ?_ | refine NBr.pos (by assumption) ?_ | refine NIdxS.at hx ?_ | refine NSlS.bytes (frm) (i) ?_ | refine NCall.eq (hN) (by rfl) ?_)); (all_goals (conv => whnf))
     all_goals (refine NEnd.eq ?_; (repeat' (first | exact leW_refl _ | refine And.intro ?_ ?_ | exact rfl)))
    ·rw [hb] at he hN
     generalize hn : numN ((s.drop frm).take (i - frm)) = n at he hN
     have hn2 : n ≤ 4294967295 := by rw [hb, hn] at hA; exact (arcS_some hA).1
     rw [if_pos rfl] at he; replace he := he.trans numsJ_some
     (repeat' ((conv => whnf); first | refine NBr.yes ?_ | refine NBr.no ?_ | refine NBr.pos (by assumption) ?_ | refine NIdxS.at hx ?_ | refine NSlS.bytes (frm) (i) ?_ | refine NCall.eq (hN) (by rfl) ?_ | refine NApp.one arcC n ?_ | (with_reducible refine NInt.i64 ?_) | (with_reducible refine NInt.u32 ?_))); (all_goals (conv => whnf))
     refine ⟨(i + 1, i + 1, ns ++ [n]), ⟨by show i + 1 ≤ _; omega, Nat.le_refl _, by simp; omega, ?_⟩, by show s.length + 1 - (i + 1) < s.length + 1 - i; omega, ?_⟩
     ·show q = numsJ (ns ++ [n]) (arcsL (restS s (i + 1) (i + 1)))
      unfold restS
      rw [if_pos (by omega), Nat.sub_self, List.take_zero]; exact he
     ·((repeat' (first | exact trivial | exact leW_refl _ | refine And.intro ?_ ?_ | exact rfl)))
   ·have gd : ((c.toNat : Int) != 46) = true := by
     rw [bne_iff_ne]; intro h; exact hd (UInt8.toNat_inj.1 (by show c.toNat = 46; omega))
    rw [if_neg hd] at he
    (repeat' ((conv => whnf); first | refine NBr.yes ?_ | refine NBr.pos (by assumption) ?_ | refine NIdxS.at hx ?_ | (with_reducible refine NInt.i64 ?_))); (all_goals (conv => whnf))
    refine ⟨(i + 1, frm, ns), ⟨by show i + 1 ≤ _; omega, by show frm ≤ i + 1; omega, by show ns.length ≤ i + 1; omega, ?_⟩, by show s.length + 1 - (i + 1) < s.length + 1 - i; omega, ?_⟩
    ·show q = numsJ ns (arcsL (restS s frm (i + 1)))
     unfold restS
     rw [if_pos (by omega), cut_snoc hx hfi]; exact he
    ·((repeat' (first | exact trivial | exact leW_refl _ | refine And.intro ?_ ?_ | exact rfl)))
  ·have hie : i = s.length := by omega
   have gl : decide ((i : Int) < s.length) = false := decide_eq_false (by omega)
   rw [show s.drop i = [] by rw [hie, List.drop_length], dotsA, arcsL, hA] at he
   cases hb : numB ((s.drop frm).take (i - frm))
   ·rw [hb] at he hN
    have he' : q = none := by rw [he]; rfl
    subst he'
    (repeat' ((conv => whnf); first | refine NBr.yes ?_ | refine NBr.no ?_ | refine NBr.pos (by assumption) ?_ | refine NBr.neg (by assumption) ?_ | refine NSlS.bytes (frm) (i) ?_ | refine NCall.eq (hN) (by rfl) ?_)); (all_goals (conv => whnf))
    all_goals (refine NEnd.eq ?_; (repeat' (first | exact leW_refl _ | refine And.intro ?_ ?_ | exact rfl)))
   ·rw [hb] at he hN
    generalize hn : numN ((s.drop frm).take (i - frm)) = n at he hN
    have hn2 : n ≤ 4294967295 := by rw [hb, hn] at hA; exact (arcS_some hA).1
    rw [if_pos rfl] at he; replace he := he.trans (numsJ_some (a := ns) (n := n) (o := arcsL []))
    (repeat' ((conv => whnf); first | refine NBr.no ?_ | refine NBr.pos (by assumption) ?_ | refine NBr.neg (by assumption) ?_ | refine NSlS.bytes (frm) (i) ?_ | refine NCall.eq (hN) (by rfl) ?_ | refine NApp.one arcC n ?_ | (with_reducible refine NInt.i64 ?_) | (with_reducible refine NInt.u32 ?_))); (all_goals (conv => whnf))
    refine ⟨(i + 1, i + 1, ns ++ [n]), ⟨by show i + 1 ≤ _; omega, Nat.le_refl _, by simp; omega, ?_⟩, by show s.length + 1 - (i + 1) < s.length + 1 - i; omega, ?_⟩
    ·show q = numsJ (ns ++ [n]) (arcsL (restS s (i + 1) (i + 1)))
     unfold restS
     rw [if_neg (by omega)]; exact he
    ·((repeat' (first | exact trivial | exact leW_refl _ | refine And.intro ?_ ?_ | exact rfl)))
 ·have gi : decide ((i : Int) ≤ s.length) = false := decide_eq_false (by omega)
  unfold restS at he
  rw [if_neg hik, arcsL] at he
  have he' : q = some ns := by rw [he]; show some (ns ++ []) = _; rw [List.append_nil]
  subst he'
  have hR := rRight_any ns (by omega)
  cases hr : rightB ns
  ·rw [hr] at hR
   simp only [hr]
   (repeat' ((conv => whnf); first | refine NBr.yes ?_ | refine NBr.neg (by assumption) ?_ | refine NCall.eq (hR) (by first | rfl | (simp only [AV.gives, AV.give, uns_arc]; first | done | rfl)) ?_)); (all_goals (conv => whnf))
   all_goals (refine NEnd.eq ?_; (repeat' (first | exact leW_refl _ | refine And.intro ?_ ?_ | exact rfl)))
  ·rw [hr] at hR
   simp only [hr]
   (repeat' ((conv => whnf); first | refine NBr.no ?_ | refine NBr.neg (by assumption) ?_ | refine NCall.eq (hR) (by first | rfl | (simp only [AV.gives, AV.give, uns_arc]; first | done | rfl)) ?_)); (all_goals (conv => whnf))
   all_goals (refine NEnd.eq ?_; (repeat' (first | exact trivial | exact leW_refl _ | refine And.intro ?_ ?_ | exact rfl)))
theorem rOidValid_any (s : List UInt8) (hs : s.length ≤ 900000) : ACalls Tryz.prog 56 [sx s] (fun r => r = bv (oidV s)) := by
 have hA := rArcs_any s hs
 unfold arcsA at hA
 unfold oidV
 generalize arcsS s = q at hA ⊢
 cases q with
 | none =>
   refine acalls_vc 12 _ tabOk mixed Tryz.func56 rfl (by kernel_rfl) rfl rfl rfl rfl fun W0 fp0 z0 => ?_
   (repeat' ((conv => whnf); refine NCall.eq (hA) (by rfl) ?_)); (all_goals (conv => whnf))
   all_goals (refine NEnd.eq ?_; (repeat' (first | exact leW_refl _ | refine And.intro ?_ ?_ | exact rfl)))
 | some a =>
   refine acalls_vc 12 _ tabOk mixed Tryz.func56 rfl (by kernel_rfl) rfl rfl rfl rfl fun W0 fp0 z0 => ?_
   (repeat' ((conv => whnf); refine NCall.eq (hA) (by rfl) ?_)); (all_goals (conv => whnf))
   all_goals (refine NEnd.eq ?_; (repeat' (first | exact leW_refl _ | refine And.intro ?_ ?_ | exact rfl)))
theorem textL_snoc : ∀ (a : List Nat) (n : Nat), a ≠ [] → textL (a ++ [n]) = textL a ++ 46 :: Lib.decDigits n
 | [], _, h => absurd rfl h
 | [m], n, _ => rfl
 | m :: k :: r, n, _ => by
   have ih := textL_snoc (k :: r) n (by simp)
   rw [List.cons_append, List.cons_append, textL, ← List.cons_append, ih, textL]; simp
theorem rText_any (a : List Nat) (hb : ∀ n ∈ a, n ≤ 4294967295) (ha : a.length ≤ 1000000) : ACalls Tryz.prog 138 [.d (arcD false a)] (fun r => r = if rightB a then .tup [sx (textL a), iv 0] else .tup [sx [], iv 8]) := by
 have hR := rRight_any a (by omega)
 cases hr : rightB a
 ·rw [hr] at hR
  rw [if_neg (by simp)]
  refine acalls_vc 30 _ tabOk mixed Tryz.func138 rfl (by kernel_rfl) rfl rfl rfl rfl fun W0 fp0 z0 => ?_
  (repeat' ((conv => whnf); first | refine NBr.yes ?_ | refine NCall.eq (hR) (by first | rfl | (simp only [AV.gives, AV.give, un_arcD]; first | done | rfl)) ?_)); (all_goals (conv => whnf))
  all_goals (refine NEnd.eq ?_; (repeat' (first | exact leW_refl _ | refine And.intro ?_ ?_ | exact rfl)))
 ·rw [hr] at hR
  rw [if_pos rfl]
  obtain ⟨x, y, r, hxy, -⟩ := rightB_ne hr
  have h0 : a[0]? = some x := by rw [hxy]; rfl
  have hal : 1 ≤ a.length := by rw [hxy]; simp
  have hx2 := hb x (List.mem_of_getElem? h0)
  have hD := rDigits_any x hx2
  have ht1 : textL (a.take 1) = Lib.decDigits x := by rw [hxy]; rfl
  rw [← ht1] at hD
  refine acalls_vc 30 _ tabOk mixed Tryz.func138 rfl (by kernel_rfl) rfl rfl rfl rfl fun W0 fp0 z0 => ?_
  (repeat' ((conv => whnf); first | refine NBr.no ?_ | refine NCall.eq (hR) (by first | rfl | (simp only [AV.gives, AV.give, un_arcD]; first | done | rfl)) ?_ | refine NIdx.tab (fun _ => rfl) h0 ?_ | refine NCall.eq (hD) (by rfl) ?_ | (with_reducible refine NInt.u64 ?_))); (all_goals (conv => whnf))
  refine NLoop.go (fun i : Nat => 1 ≤ i ∧ i ≤ a.length) (fun i => a.length - i) (fun i => ⟨[(0, .d (arcD false a)), (4, sx (textL (a.take i))), (5, iv i)], [], []⟩) 1 ⟨by omega, hal⟩ (by ((repeat' (first | exact trivial | exact leW_refl _ | refine And.intro ?_ ?_)))) ?_
  rintro i ⟨hi1, hi⟩
  by_cases hik : i < a.length
  ·obtain ⟨n, hn⟩ : ∃ n, a[i]? = some n := ⟨_, List.getElem?_eq_getElem hik⟩
   have hn2 := hb n (List.mem_of_getElem? hn)
   have hF := rDigits_any n hn2
   have hl1 := textL_len (a.take i) (fun m hm => hb m (List.mem_of_mem_take hm))
   have hl2 := dec_len n hn2
   rw [List.length_take] at hl1
   have hl3 : (textL (a.take i) ++ [46]).length ≤ 30000000 := by rw [List.length_append, List.length_singleton]; omega
   have hsn : textL (a.take (i + 1)) = textL (a.take i) ++ [46] ++ Lib.decDigits n := by
    rw [take_snoc hn, textL_snoc _ _ (by intro h; have := congrArg List.length h; rw [List.length_take, List.length_nil] at this; omega)]; simp
   (repeat' ((conv => whnf); first | refine NIdx.tab (fun _ => rfl) hn ?_ | refine NCall.eq (hF) (by rfl) ?_ | (with_reducible refine NInt.i64 ?_) | (with_reducible refine NInt.u64 ?_) | refine NFact.go (by first | decide | omega | (simp only [List.length_cons, List.length_nil]; omega)) ?_ | (refine NBr.dec (fun hc hcP => ?_) (fun hc hcP => ?_) <;> try (exfalso; omega)))); (all_goals (conv => whnf))
   refine ⟨i + 1, ⟨by omega, by omega⟩, by omega, ?_⟩
   rw [hsn]
   ((repeat' (first | exact trivial | exact leW_refl _ | refine And.intro ?_ ?_)))
  ·obtain rfl : i = a.length := by omega
   rw [List.take_length]
   (repeat' ((conv => whnf); (refine NBr.dec (fun hc hcP => ?_) (fun hc hcP => ?_) <;> try (exfalso; omega)))); (all_goals (conv => whnf))
   all_goals (refine NEnd.eq ?_; (repeat' (first | exact leW_refl _ | refine And.intro ?_ ?_ | exact rfl)))
theorem rBase_any (n : Nat) : n ≤ 4294967295 → ∀ l : Bool, ACalls Tryz.prog 113 [uv n, bv l] (fun r => r = ownB 0 5 (b128 l n)) := by
 induction n using Nat.strongRecOn with
 | _ n ih =>
   intro hn l
   have hx : (n % 128 + if l = true then 0 else 128) < 256 := by cases l <;> simp <;> omega
   by_cases h : n < 128
   ·have g : decide ((n : Int) < 128) = true := decide_eq_true (by omega)
    rw [b128_small l h]
    cases l
    ·refine acalls_vc 23 _ tabOk mixed Tryz.func113 rfl (by kernel_rfl) rfl rfl rfl rfl fun W0 fp0 z0 => ?_
     (repeat' ((conv => whnf); first | refine NBr.yes ?_ | refine NBr.pos (by assumption) ?_ | refine NInt.as (((UInt8.ofNat (n % 128 + 128)).toNat : Int) ) ( (by rw [UInt8.toNat_ofNat', IntWalk.u8_in _ (by omega)]; omega)) ?_ | (with_reducible refine NInt.u8 ?_) | (with_reducible refine NInt.remL ?_) | refine NFact.go (by first | decide | omega | (simp only [List.length_cons, List.length_nil]; omega)) ?_)); (all_goals (conv => whnf))
     all_goals (refine NEnd.eq ?_; (repeat' (first | refine And.intro ?_ ?_ | exact rfl)))
     all_goals rfl
    ·refine acalls_vc 23 _ tabOk mixed Tryz.func113 rfl (by kernel_rfl) rfl rfl rfl rfl fun W0 fp0 z0 => ?_
     (repeat' ((conv => whnf); first | refine NBr.no ?_ | refine NBr.pos (by assumption) ?_ | refine NInt.as (((UInt8.ofNat (n % 128 + 0)).toNat : Int) ) ( (by rw [UInt8.toNat_ofNat', IntWalk.u8_in _ (by omega)]; omega)) ?_ | (with_reducible refine NInt.remL ?_) | refine NFact.go (by first | decide | omega | (simp only [List.length_cons, List.length_nil]; omega)) ?_)); (all_goals (conv => whnf))
     all_goals (refine NEnd.eq ?_; (repeat' (first | refine And.intro ?_ ?_ | exact rfl)))
     all_goals rfl
   ·have g : decide ((n : Int) < 128) = false := decide_eq_false (by omega)
    have hI := ih (n / 128) (by omega) (by omega) false
    have hL := b128_len0 false 4 (n / 128) (by omega)
    rw [b128_big l h]
    cases l
    ·refine acalls_vc 23 _ tabOk mixed Tryz.func113 rfl (by kernel_rfl) rfl rfl rfl rfl fun W0 fp0 z0 => ?_
     (repeat' ((conv => whnf); first | refine NBr.yes ?_ | refine NBr.neg (by assumption) ?_ | refine NInt.as (((UInt8.ofNat (n % 128 + 128)).toNat : Int) ) ( (by rw [UInt8.toNat_ofNat', IntWalk.u8_in _ (by omega)]; omega)) ?_ | refine NCall.eq (hI) (by rfl) ?_ | refine NApp.byte (_) ?_ | (with_reducible refine NInt.u8 ?_) | (with_reducible refine NInt.quoL ?_) | (with_reducible refine NInt.remL ?_) | refine NFact.go (by first | decide | omega | (simp only [List.length_cons, List.length_nil]; omega)) ?_)); (all_goals (conv => whnf))
     all_goals (refine NEnd.eq ?_; (repeat' (first | refine And.intro ?_ ?_ | exact rfl)))
     all_goals rfl
    ·refine acalls_vc 23 _ tabOk mixed Tryz.func113 rfl (by kernel_rfl) rfl rfl rfl rfl fun W0 fp0 z0 => ?_
     (repeat' ((conv => whnf); first | refine NBr.no ?_ | refine NBr.neg (by assumption) ?_ | refine NInt.as (((UInt8.ofNat (n % 128 + 0)).toNat : Int) ) ( (by rw [UInt8.toNat_ofNat', IntWalk.u8_in _ (by omega)]; omega)) ?_ | refine NCall.eq (hI) (by rfl) ?_ | refine NApp.byte (_) ?_ | (with_reducible refine NInt.quoL ?_) | (with_reducible refine NInt.remL ?_) | refine NFact.go (by first | decide | omega | (simp only [List.length_cons, List.length_nil]; omega)) ?_)); (all_goals (conv => whnf))
     all_goals (refine NEnd.eq ?_; (repeat' (first | refine And.intro ?_ ?_ | exact rfl)))
     all_goals rfl
theorem flat128_len0 : ∀ (l : List Nat), (∀ n ∈ l, n ≤ 4294967295) → (l.flatMap (b128 true)).length ≤ 5 * l.length
 | [], _ => by simp
 | n :: r, h => by
   have h1 := b128_len0 true 4 n (by have := h n (by simp); omega)
   have h2 := flat128_len0 r (fun m hm => h m (by simp [hm]))
   rw [List.flatMap_cons, List.length_append, List.length_cons]; omega
theorem arcsS_len0 {s : List UInt8} {a : List Nat} (h : arcsS s = some a) : a.length ≤ s.length + 1 := by
 unfold arcsS at h
 split at h
 ·rename_i a' h1
  split at h
  ·cases h
   rw [arcsL_len h1]; exact dots_len s
  ·cases h
 ·cases h
theorem rEncode_some (s : List UInt8) (hs : s.length ≤ 900000) {a : List Nat} (h : arcsS s = some a) : ACalls Tryz.prog 80 [sx s] (fun r => r = .tup [.d (bytesD true (encO a)), iv 0]) := by
 have hA := rArcs_any s hs
 unfold arcsA at hA
 rw [h] at hA
 obtain ⟨k1, k2, k3⟩ := arcsS_some h
 have hal := arcsS_len0 h
 obtain ⟨x, y, r, rfl, x2, xy, y2⟩ := rightB_ne k1
 have h0 : (x :: y :: r)[0]? = some x := rfl
 have h1 : (x :: y :: r)[1]? = some y := rfl
 have hxy : 40 * x + y ≤ 4294967295 := by
  by_cases hx : x < 2
  ·have := xy hx; omega
  ·omega
 have e1 : ∀ z : Int, z = ((40 * x + y : Nat) : Int) → IntKind.u64.wrap z = ((40 * x + y : Nat) : Int) := fun z hz => by rw [hz, IntWalk.u64_in _ (by omega)]
 have hL := b128_len0 true 4 (40 * x + y) (by omega)
 simp only [List.length_cons] at hal
 have hB := rBase_any (40 * x + y) hxy true
 refine acalls_vc 41 _ tabOk mixed Tryz.func80 rfl (by kernel_rfl) rfl rfl rfl rfl fun W0 fp0 z0 => ?_
 (repeat' ((conv => whnf); first | refine NBr.no ?_ | refine NCall.eq (hA) (by rfl) ?_ | refine NIdx.tab (fun _ => rfl) h0 ?_ | refine NIdx.tab (fun _ => rfl) h1 ?_ | refine NInt.as (((40 * x + y : Nat) : Int) ) ( e1 _ (by omega)) ?_ | refine NCall.eq (hB) (by rfl) ?_ | (with_reducible refine NInt.u64 ?_) | refine NFact.go ⟨by decide +kernel, by kernel_rfl⟩ ?_)); (all_goals (conv => whnf))
 refine NLoop.go (fun i : Nat => 2 ≤ i ∧ i ≤ r.length + 2) (fun i => r.length + 2 - i) (fun i => ⟨[(4, .d (arcD true (x :: y :: r))), (6, ownB 25 5 (b128 true (40 * x + y) ++ (r.take (i - 2)).flatMap (b128 true))), (7, iv i)], [], [(25, ((b128 true (40 * x + y) ++ (r.take (i - 2)).flatMap (b128 true)).length, 1, 5))]⟩) 2 ⟨by omega, by omega⟩ (by rw [Nat.sub_self, List.take_zero, List.flatMap_nil, List.append_nil]; ((repeat' (first | exact trivial | exact leW_refl _ | refine And.intro ?_ ?_ | exact rfl)))) ?_
 rintro i ⟨hi2, hi⟩
 obtain ⟨j, rfl⟩ : ∃ j, i = j + 2 := ⟨i - 2, by omega⟩
 rw [Nat.add_sub_cancel]
 by_cases hik : j < r.length
 ·obtain ⟨m, hm⟩ : ∃ n, r[j]? = some n := ⟨_, List.getElem?_eq_getElem hik⟩
  have hm2 : (x :: y :: r)[j + 2]? = some m := hm
  have hmb := k2 m (by simp [List.mem_of_getElem? hm])
  have hLm := b128_len0 true 4 m (by omega)
  have hLf := flat128_len0 (r.take j) (fun n hn => k2 n (by simp [List.mem_of_mem_take hn]))
  rw [List.length_take] at hLf
  have hLa : (b128 true (40 * x + y) ++ (r.take j).flatMap (b128 true)).length ≤ 6000000 := by rw [List.length_append]; omega
  have hsn : b128 true (40 * x + y) ++ (r.take (j + 1)).flatMap (b128 true) = b128 true (40 * x + y) ++ (r.take j).flatMap (b128 true) ++ b128 true m := by
   rw [take_snoc hm, List.flatMap_append, List.append_assoc]; simp
  have hBm := rBase_any m hmb true
  have gi : decide (((j + 2 : Nat) : Int) < ((x :: y :: r).length : Nat)) = true := decide_eq_true (by simp only [List.length_cons]; omega)
  (repeat' ((conv => whnf); first | refine NBr.pos (by assumption) ?_ | refine NIdx.tab (fun _ => rfl) hm2 ?_ | refine NCall.eq (hBm) (by rfl) ?_ | (with_reducible refine NInt.i64 ?_) | (with_reducible refine NInt.u64 ?_) | (with_reducible refine NApp.bytes ?_))); (all_goals (conv => whnf))
  refine ⟨j + 1 + 2, ⟨by omega, by omega⟩, by omega, ?_⟩
  rw [Nat.add_sub_cancel, hsn]
  ((repeat' (first | exact trivial | exact leW_refl _ | refine And.intro ?_ ?_ | exact rfl)))
 ·obtain rfl : j = r.length := by omega
  have gi : decide (((r.length + 2 : Nat) : Int) < ((x :: y :: r).length : Nat)) = false := decide_eq_false (by simp only [List.length_cons]; omega)
  rw [List.take_length]
  (repeat' ((conv => whnf); refine NBr.neg (by assumption) ?_)); (all_goals (conv => whnf))
  all_goals (refine NEnd.eq ?_; (repeat' (first | exact trivial | exact leW_refl _ | refine And.intro ?_ ?_ | exact rfl)))
  all_goals rfl
theorem rEncode_none (s : List UInt8) (hs : s.length ≤ 900000) (h : arcsS s = none) : ACalls Tryz.prog 80 [sx s] (fun r => r = .tup [.d (bytesD true []), iv 8]) := by
 have hA := rArcs_any s hs
 unfold arcsA at hA
 rw [h] at hA
 refine acalls_vc 41 _ tabOk mixed Tryz.func80 rfl (by kernel_rfl) rfl rfl rfl rfl fun W0 fp0 z0 => ?_
 (repeat' ((conv => whnf); first | refine NBr.yes ?_ | refine NCall.eq (hA) (by rfl) ?_)); (all_goals (conv => whnf))
 all_goals (refine NEnd.eq ?_; (repeat' (first | exact trivial | exact leW_refl _ | refine And.intro ?_ ?_ | exact rfl)))
theorem rOidEnc_any (s : List UInt8) (hs : s.length ≤ 900000) : ACalls Tryz.prog 80 [sx s] (fun r => r = .tup [.d (bytesD true (oidE s)), iv (oidC s)]) := by
 unfold oidE oidC
 cases h : arcsS s with
 | some a => exact rEncode_some s hs h
 | none => exact rEncode_none s hs h
end Go.Proofs.YtblabcopgeobgaaGreatDoor

namespace Go.Proofs.YtblabcopgeobgaaGreatDoor
open Go.RowKit
set_option maxRecDepth 100000
set_option maxHeartbeats 8000000
theorem bytesEq_any (f : Bool) (g : Bool) (a b : List UInt8) (ha : a.length ≤ 1000000000) (hb : b.length ≤ 1000000000) : ACalls Tryz.prog 15 [.d (bytesD f a), .d (bytesD g b)] (fun r => r = bv (a == b)) := by
 refine acalls_vc 10 _ tabOk mixed Tryz.func15 rfl (by kernel_rfl) rfl rfl rfl rfl fun W0 fp0 z0 => ?_
 (repeat' ((conv => whnf); (with_reducible refine NStr.go ?_))); (all_goals (conv => whnf))
 all_goals (refine NEnd.eq ?_; (repeat' (first | exact leW_refl _ | refine And.intro ?_ ?_ | exact rfl)))
theorem numsR_step {c : List UInt8} {i : Nat} {x : UInt8} {n : Nat} (hx : c[i]? = some x) : numsR n (c.drop i) = if n * 128 + x.toNat % 128 > 4294967295 then none else if x.toNat < 128 then (match numsR 0 (c.drop (i + 1)) with
 | some l => some ((n * 128 + x.toNat % 128) :: l)
 | none => none) else numsR (n * 128 + x.toNat % 128) (c.drop (i + 1)) := by
 rw [drop_get hx, numsR] <;> rfl
theorem rdecA_bad {c : List UInt8} (h : numsR 0 c = none ∨ numsR 0 c = some []) : decA c = .tup [sx [], iv 6] := by
 have : decS c = none := by rw [decS_ref]; rcases h with h | h <;> rw [h]
 unfold decA odT odC
 rw [this]; rfl
theorem rOidDec_any (c : List UInt8) (hl : c.length ≤ 30000) : ACalls Tryz.prog 116 [.d (bytesD false c)] (fun r => r = decA c) := by
 refine acalls_vc 94 _ tabOk mixed Tryz.func116 rfl (by kernel_rfl) rfl rfl rfl rfl fun W0 fp0 z0 => ?_
 (all_goals (conv => whnf))
 refine NLoop.goA [.s 4 1 148] (fun p : Nat × List Nat × Nat => p.1 ≤ c.length ∧ p.2.1.length ≤ p.1 ∧ p.2.2 ≤ 4294967295 ∧ numsR 0 c = numsJ p.2.1 (numsR p.2.2 (c.drop p.1))) (fun p => c.length - p.1) (fun p => ⟨[(0, .d (bytesD false c)), (4, ownT 4 1 148 numC p.2.1), (5, uv p.2.2), (6, iv p.1)], [], [(4, (p.2.1.length, 1, 148))]⟩) (0, [], 0) ⟨by simp, by simp, by simp, (numsJ_nil _).symm⟩ (by ((repeat' (first | exact trivial | exact leW_refl _ | refine And.intro ?_ ?_ | exact rfl)))) ?_
 rintro ⟨i, ns, n⟩ ⟨hi, hnl, hn, he⟩
 simp only at hi hnl hn he
 by_cases hik : i < c.length
 ·obtain ⟨x, hx⟩ : ∃ x, c[i]? = some x := ⟨_, List.getElem?_eq_getElem hik⟩
  have hxl := x.toNat_lt
  rw [numsR_step hx] at he
  have e1 : ∀ z : Int, z = ((n * 128 + x.toNat % 128 : Nat) : Int) → IntKind.u64.wrap z = ((n * 128 + x.toNat % 128 : Nat) : Int) := fun z hz => by rw [hz, IntWalk.u64_in _ (by omega)]
  by_cases c2 : n * 128 + x.toNat % 128 > 4294967295
  ·rw [if_pos c2] at he
   rw [rdecA_bad (.inl he)]
   have g2 : decide (((n * 128 + x.toNat % 128 : Nat) : Int) > 4294967295) = true := decide_eq_true (by omega)
   (repeat' ((conv => whnf); first | refine NBr.pos (by assumption) ?_ | refine NIdx.bytes hx ?_ | (with_reducible refine NInt.u64 ?_) | (with_reducible refine NInt.remL ?_) | refine NFact.go (by first | decide | omega | (simp only [List.length_cons, List.length_nil]; omega)) ?_ | (refine NBr.dec (fun hc hcP => ?_) (fun hc hcP => ?_) <;> try (exfalso; omega)))); (all_goals (conv => whnf))
   all_goals (refine NEnd.eq ?_; (repeat' (first | exact leW_refl _ | refine And.intro ?_ ?_ | exact rfl)))
  ·rw [if_neg c2] at he
   have g2 : decide (((n * 128 + x.toNat % 128 : Nat) : Int) > 4294967295) = false := decide_eq_false (by omega)
   by_cases c3 : x.toNat < 128
   ·rw [if_pos c3] at he
    replace he := he.trans (numsJ_cons ns (n * 128 + x.toNat % 128) (numsR 0 (c.drop (i + 1))))
    have g3 : decide ((x.toNat : Int) < 128) = true := decide_eq_true (by omega)
    (repeat' ((conv => whnf); first | refine NBr.pos (by assumption) ?_ | refine NBr.neg (by assumption) ?_ | refine NIdx.bytes hx ?_ | refine NApp.one numC (n * 128 + x.toNat % 128) ?_ | (with_reducible refine NInt.i64 ?_) | (with_reducible refine NInt.u64 ?_) | (with_reducible refine NInt.remL ?_) | refine NFact.go (by first | decide | omega | (simp only [List.length_cons, List.length_nil]; omega)) ?_ | (refine NBr.dec (fun hc hcP => ?_) (fun hc hcP => ?_) <;> try (exfalso; omega)))); (all_goals (conv => whnf))
    refine ⟨(i + 1, ns ++ [n * 128 + x.toNat % 128], 0), ⟨by show i + 1 ≤ _; omega, by simp; omega, by simp, he⟩, by show c.length - (i + 1) < c.length - i; omega, ?_⟩
    ((repeat' (first | exact trivial | exact leW_refl _ | refine And.intro ?_ ?_ | exact rfl)))
   ·rw [if_neg c3] at he
    have g3 : decide ((x.toNat : Int) < 128) = false := decide_eq_false (by omega)
    (repeat' ((conv => whnf); first | refine NBr.neg (by assumption) ?_ | refine NIdx.bytes hx ?_ | (with_reducible refine NInt.i64 ?_) | (with_reducible refine NInt.u64 ?_) | (with_reducible refine NInt.remL ?_) | refine NFact.go (by first | decide | omega | (simp only [List.length_cons, List.length_nil]; omega)) ?_ | (refine NBr.dec (fun hc hcP => ?_) (fun hc hcP => ?_) <;> try (exfalso; omega)))); (all_goals (conv => whnf))
    refine ⟨(i + 1, ns, n * 128 + x.toNat % 128), ⟨by show i + 1 ≤ _; omega, by show ns.length ≤ i + 1; omega, by show n * 128 + x.toNat % 128 ≤ _; omega, he⟩, by show c.length - (i + 1) < c.length - i; omega, ?_⟩
    ((repeat' (first | exact trivial | exact leW_refl _ | refine And.intro ?_ ?_ | exact rfl)))
 ·obtain rfl : i = c.length := by omega
  rw [List.drop_length, numsR] at he
  simp only [numsJ, List.append_nil] at he
  cases ns with
  | nil =>
    rw [rdecA_bad (.inr he)]
    (repeat' ((conv => whnf); first | refine NBr.yes ?_ | (refine NBr.dec (fun hc hcP => ?_) (fun hc hcP => ?_) <;> try (exfalso; omega)))); (all_goals (conv => whnf))
    all_goals (refine NEnd.eq ?_; (repeat' (first | exact leW_refl _ | refine And.intro ?_ ?_ | exact rfl)))
  | cons n0 r =>
    have hD := decS_ref c
    rw [he] at hD
    have k2 := numsR_le c 0 _ he
    obtain ⟨k3, k4, k5⟩ := unroot_right (l := n0 :: r) (by simp) k2
    have hn0 := k2 n0 (by simp)
    rw [List.length_cons] at hnl
    have hul : (unroot (n0 :: r)).length = r.length + 2 := by rw [unroot]; rfl
    have htl := textL_len (unroot (n0 :: r)) k4
    have hT := rText_any (unroot (n0 :: r)) k4 (by omega)
    rw [if_pos k3] at hT
    have hE := rOidEnc_any (textL (unroot (n0 :: r))) (by omega)
    have hat := arcsS_text k3 k4
    rw [show oidE (textL (unroot (n0 :: r))) = encO (unroot (n0 :: r)) by unfold oidE; rw [hat], show oidC (textL (unroot (n0 :: r))) = 0 by unfold oidC; rw [hat]] at hE
    have hel : (encO (unroot (n0 :: r))).length ≤ 5 * (r.length + 1) := by
     rw [k5]
     have := flat128_len0 (n0 :: r) k2
     simpa using this
    have hB := bytesEq_any false false (encO (unroot (n0 :: r))) c (by omega) (by omega)
    have h0 : (n0 :: r)[0]? = some n0 := rfl
    have hz : ((((n0 :: r).length : Nat) : Int) == 0) = false := by rw [List.length_cons, beq_eq_false_iff_ne]; omega
    have tail : ∀ (b : Bool), (encO (unroot (n0 :: r)) == c) = b → decA c = if b then .tup [sx (textL (unroot (n0 :: r))), iv 0] else .tup [sx [], iv 6] := fun b hb => by
     simp only at hD
     cases b with
     | true => rw [if_pos (by simpa using hb)] at hD; unfold decA odT odC; rw [hD]; rfl
     | false =>
       rw [beq_l, decide_eq_false_iff_not] at hb
       rw [if_neg hb] at hD; unfold decA odT odC; rw [hD]; rfl
    by_cases h80 : n0 < 80
    ·have g80 : decide ((n0 : Int) < 80) = true := decide_eq_true (by omega)
     have hu : unroot (n0 :: r) = (n0 / 40) :: (n0 - 40 * (n0 / 40)) :: r := by rw [unroot, show min (n0 / 40) 2 = n0 / 40 by omega]
     have ar : ∀ m : Int, m = ((n0 - 40 * (n0 / 40) : Nat) : Int) → IntKind.u64.wrap m = ((n0 - 40 * (n0 / 40) : Nat) : Int) := fun m hm => by rw [hm, IntWalk.u64_in _ (by omega)]
     generalize hq : unroot (n0 :: r) = q at hT hE hB tail hu
     have hq40 : n0 / 40 ≤ 1 := by omega
     generalize hw : n0 / 40 = w40 at hu ar hq40
     have e40 : ∀ z : Int, z = (w40 : Int) → IntKind.u64.wrap z = (w40 : Int) := fun z hz => by rw [hz, IntWalk.u64_in _ (by omega)]
     have hw2 : w40 * 40 ≤ n0 := by omega
     rw [hu] at hT hE hB tail
     (repeat' ((conv => whnf); first | refine NBr.no ?_ | refine NBr.pos (by assumption) ?_ | refine NIdx.tab (fun _ => rfl) h0 ?_ | refine NInt.as (((w40 : Nat) : Int) ) ( e40 _ (by rw [Int.tdiv_eq_ediv_of_nonneg (by omega)]; omega)) ?_ | refine NInt.as (((n0 - 40 * w40 : Nat) : Int) ) ( ar _ (by omega)) ?_ | (with_reducible refine NInt.u32 ?_) | (with_reducible refine NInt.u64 ?_) | refine NFact.go (by first | decide | omega | (simp only [List.length_cons, List.length_nil]; omega)) ?_ | (refine NBr.dec (fun hc hcP => ?_) (fun hc hcP => ?_) <;> try (exfalso; omega)))); (all_goals (conv => whnf))
     refine NLoop.go (fun i : Nat => 1 ≤ i ∧ i ≤ r.length + 1) (fun i => r.length + 1 - i) (fun i => ⟨[(0, .d (bytesD false c)), (4, ownT 4 1 148 numC (n0 :: r)), (8, ownT 60 1 158 arcC (w40 :: (n0 - 40 * w40) :: r.take (i - 1))), (9, iv i)], [], [(60, ((w40 :: (n0 - 40 * w40) :: r.take (i - 1)).length, 1, 158)), (4, ((n0 :: r).length, 1, 148))]⟩) 1 ⟨by omega, by omega⟩ (by rw [Nat.sub_self, List.take_zero]; ((repeat' (first | exact trivial | exact leW_refl _ | refine And.intro ?_ ?_ | exact rfl)))) ?_
     rintro i ⟨hi1, hi⟩
     obtain ⟨j, rfl⟩ : ∃ j, i = j + 1 := ⟨i - 1, by omega⟩
     rw [Nat.add_sub_cancel]
     by_cases hik : j < r.length
     ·obtain ⟨m, hm⟩ : ∃ n, r[j]? = some n := ⟨_, List.getElem?_eq_getElem hik⟩
      have hm2 : (n0 :: r)[j + 1]? = some m := hm
      have hmb := k2 m (by simp [List.mem_of_getElem? hm])
      have gi : decide (((j + 1 : Nat) : Int) < ((n0 :: r).length : Nat)) = true := decide_eq_true (by simp only [List.length_cons]; omega)
      (repeat' ((conv => whnf); first | refine NBr.pos (by assumption) ?_ | refine NIdx.tab (fun _ => rfl) hm2 ?_ | refine NApp.one arcC m ?_ | (with_reducible refine NInt.i64 ?_) | (with_reducible refine NInt.u32 ?_))); (all_goals (conv => whnf))
      refine ⟨j + 1 + 1, ⟨by omega, by omega⟩, by omega, ?_⟩
      rw [Nat.add_sub_cancel, take_snoc hm]
      ((repeat' (first | exact trivial | exact leW_refl _ | refine And.intro ?_ ?_ | exact rfl)))
     ·obtain rfl : j = r.length := by omega
      have gi : decide (((r.length + 1 : Nat) : Int) < ((n0 :: r).length : Nat)) = false := decide_eq_false (by simp only [List.length_cons]; omega)
      rw [List.take_length]
      cases hbb : (encO (w40 :: (n0 - 40 * w40) :: r) == c)
      ·rw [hbb] at hB
       rw [tail false hbb, if_neg (by simp)]
       (repeat' ((conv => whnf); first | refine NBr.yes ?_ | refine NBr.no ?_ | refine NBr.neg (by assumption) ?_ | refine NCall.eq (hT) (by first | rfl | (simp only [AV.gives, AV.give, uns_arc]; first | done | rfl)) ?_ | refine NCall.eq (hE) (by rfl) ?_ | refine NCall.eq (hB) (by first | rfl | (simp only [AV.gives, AV.give, un_bytesD]; first | done | rfl)) ?_)); (all_goals (conv => whnf))
       all_goals (refine NEnd.eq ?_; (repeat' (first | exact leW_refl _ | refine And.intro ?_ ?_ | exact rfl)))
      ·rw [hbb] at hB
       rw [tail true hbb, if_pos rfl]
       (repeat' ((conv => whnf); first | refine NBr.no ?_ | refine NBr.neg (by assumption) ?_ | refine NCall.eq (hT) (by first | rfl | (simp only [AV.gives, AV.give, uns_arc]; first | done | rfl)) ?_ | refine NCall.eq (hE) (by rfl) ?_ | refine NCall.eq (hB) (by first | rfl | (simp only [AV.gives, AV.give, un_bytesD]; first | done | rfl)) ?_)); (all_goals (conv => whnf))
       all_goals (refine NEnd.eq ?_; (repeat' (first | exact leW_refl _ | refine And.intro ?_ ?_ | exact rfl)))
    ·have g80 : decide ((n0 : Int) < 80) = false := decide_eq_false (by omega)
     have hu : unroot (n0 :: r) = 2 :: (n0 - 40 * 2) :: r := by rw [unroot, show min (n0 / 40) 2 = 2 by omega]
     have ar : ∀ m : Int, m = ((n0 - 40 * 2 : Nat) : Int) → IntKind.u64.wrap m = ((n0 - 40 * 2 : Nat) : Int) := fun m hm => by rw [hm, IntWalk.u64_in _ (by omega)]
     generalize hq : unroot (n0 :: r) = q at hT hE hB tail hu
     rw [hu] at hT hE hB tail
     (repeat' ((conv => whnf); first | refine NBr.no ?_ | refine NBr.neg (by assumption) ?_ | refine NIdx.tab (fun _ => rfl) h0 ?_ | refine NInt.as (((n0 - 40 * 2 : Nat) : Int) ) ( ar _ (by omega)) ?_ | (with_reducible refine NInt.u32 ?_) | (with_reducible refine NInt.u64 ?_) | (refine NBr.dec (fun hc hcP => ?_) (fun hc hcP => ?_) <;> try (exfalso; omega)))); (all_goals (conv => whnf))
     refine NLoop.go (fun i : Nat => 1 ≤ i ∧ i ≤ r.length + 1) (fun i => r.length + 1 - i) (fun i => ⟨[(0, .d (bytesD false c)), (4, ownT 4 1 148 numC (n0 :: r)), (8, ownT 60 1 158 arcC (2 :: (n0 - 40 * 2) :: r.take (i - 1))), (9, iv i)], [], [(60, ((2 :: (n0 - 40 * 2) :: r.take (i - 1)).length, 1, 158)), (4, ((n0 :: r).length, 1, 148))]⟩) 1 ⟨by omega, by omega⟩ (by rw [Nat.sub_self, List.take_zero]; ((repeat' (first | exact trivial | exact leW_refl _ | refine And.intro ?_ ?_ | exact rfl)))) ?_
     rintro i ⟨hi1, hi⟩
     obtain ⟨j, rfl⟩ : ∃ j, i = j + 1 := ⟨i - 1, by omega⟩
     rw [Nat.add_sub_cancel]
     by_cases hik : j < r.length
     ·obtain ⟨m, hm⟩ : ∃ n, r[j]? = some n := ⟨_, List.getElem?_eq_getElem hik⟩
      have hm2 : (n0 :: r)[j + 1]? = some m := hm
      have hmb := k2 m (by simp [List.mem_of_getElem? hm])
      have gi : decide (((j + 1 : Nat) : Int) < ((n0 :: r).length : Nat)) = true := decide_eq_true (by simp only [List.length_cons]; omega)
      (repeat' ((conv => whnf); first | refine NBr.pos (by assumption) ?_ | refine NIdx.tab (fun _ => rfl) hm2 ?_ | refine NApp.one arcC m ?_ | (with_reducible refine NInt.i64 ?_) | (with_reducible refine NInt.u32 ?_))); (all_goals (conv => whnf))
      refine ⟨j + 1 + 1, ⟨by omega, by omega⟩, by omega, ?_⟩
      rw [Nat.add_sub_cancel, take_snoc hm]
      ((repeat' (first | exact trivial | exact leW_refl _ | refine And.intro ?_ ?_ | exact rfl)))
     ·obtain rfl : j = r.length := by omega
      have gi : decide (((r.length + 1 : Nat) : Int) < ((n0 :: r).length : Nat)) = false := decide_eq_false (by simp only [List.length_cons]; omega)
      rw [List.take_length]
      cases hbb : (encO (2 :: (n0 - 40 * 2) :: r) == c)
      ·rw [hbb] at hB
       rw [tail false hbb, if_neg (by simp)]
       (repeat' ((conv => whnf); first | refine NBr.yes ?_ | refine NBr.no ?_ | refine NBr.neg (by assumption) ?_ | refine NCall.eq (hT) (by first | rfl | (simp only [AV.gives, AV.give, uns_arc]; first | done | rfl)) ?_ | refine NCall.eq (hE) (by rfl) ?_ | refine NCall.eq (hB) (by first | rfl | (simp only [AV.gives, AV.give, un_bytesD]; first | done | rfl)) ?_)); (all_goals (conv => whnf))
       all_goals (refine NEnd.eq ?_; (repeat' (first | exact leW_refl _ | refine And.intro ?_ ?_ | exact rfl)))
      ·rw [hbb] at hB
       rw [tail true hbb, if_pos rfl]
       (repeat' ((conv => whnf); first | refine NBr.no ?_ | refine NBr.neg (by assumption) ?_ | refine NCall.eq (hT) (by first | rfl | (simp only [AV.gives, AV.give, uns_arc]; first | done | rfl)) ?_ | refine NCall.eq (hE) (by rfl) ?_ | refine NCall.eq (hB) (by first | rfl | (simp only [AV.gives, AV.give, un_bytesD]; first | done | rfl)) ?_)); (all_goals (conv => whnf))
       all_goals (refine NEnd.eq ?_; (repeat' (first | exact leW_refl _ | refine And.intro ?_ ?_ | exact rfl)))
end Go.Proofs.YtblabcopgeobgaaGreatDoor

namespace Go.Proofs.YtblabcopgeobgaaGreatDoor
open Go.RowKit
inductive S where
 | mk (at' stop c n : Nat) (k : Bool) (b : List UInt8) (ks : List S)
def S.stop : S → Nat
 | .mk _ stop _ _ _ _ _ => stop
mutual
def nodeC (t : Bool) : S → List D
 | .mk _ _ c n k b ks => [.v (.int .i64 c), .v (.int .i64 n), .v (.bool k), bytesD t b, .sl t ks.length 5 (nodesC t ks)]
def nodesC (t : Bool) : List S → List D
 | [] => []
 | s :: r => nodeC t s ++ nodesC t r
end
mutual
def spotC (t : Bool) : S → List D
 | .mk a e c n k b ks => [.v (.int .i64 a), .v (.int .i64 e), .v (.int .i64 c), .v (.int .i64 n), .v (.bool k), bytesD t b, .sl t ks.length 5 (nodesC t ks), .sl t ks.length 8 (spotsC t ks)]
def spotsC (t : Bool) : List S → List D
 | [] => []
 | s :: r => spotC t s ++ spotsC t r
end
theorem nodesC_eq (t : Bool) (l : List S) : nodesC t l = l.flatMap (nodeC t) := by
 induction l with
 | nil => rw [nodesC]; rfl
 | cons s r ih => rw [nodesC, ih, List.flatMap_cons]
theorem spotsC_eq (t : Bool) (l : List S) : spotsC t l = l.flatMap (spotC t) := by
 induction l with
 | nil => rw [spotsC]; rfl
 | cons s r ih => rw [spotsC, ih, List.flatMap_cons]
structure SR where
 l : List S
 code : Nat
 off : Nat
def SR.bad (code off : Nat) : SR := ⟨[], code, off⟩
def joinS (x : S) (r : SR) : SR := if r.code = 0 then ⟨x :: r.l, 0, 0⟩ else ⟨[], r.code, r.off⟩
theorem joinS_ok {x : S} {r : SR} (h : r.code = 0) : joinS x r = ⟨x :: r.l, 0, 0⟩ := if_pos h
theorem joinS_bad {x : S} {r : SR} (h : r.code ≠ 0) : joinS x r = ⟨[], r.code, r.off⟩ := if_neg h
def kidsF (rd : Nat → SR) (en : Nat) : Nat → Nat → SR
 | 0, _ => ⟨[], 0, 0⟩
 | f + 1, at' => if at' < en then
     match rd at' with
     | ⟨s :: _, 0, _⟩ => joinS s (kidsF rd en f s.stop)
     | r => ⟨[], r.code, r.off⟩
   else ⟨[], 0, 0⟩
theorem kidsF_yes {rd : Nat → SR} {en f at' : Nat} {s : S} (h : at' < en) (h1 : rd at' = ⟨[s], 0, 0⟩) : kidsF rd en (f + 1) at' = joinS s (kidsF rd en f s.stop) := by
 rw [kidsF, if_pos h, h1]; rfl
theorem kidsF_no {rd : Nat → SR} {en f at' : Nat} (h : at' < en) (h1 : (rd at').code ≠ 0) : kidsF rd en (f + 1) at' = ⟨[], (rd at').code, (rd at').off⟩ := by
 rw [kidsF, if_pos h]
 generalize rd at' = r at *
 obtain ⟨l, c, o⟩ := r
 cases c with
 | zero => exact absurd rfl h1
 | succ c => cases l <;> rfl
theorem kidsF_out {rd : Nat → SR} {en f at' : Nat} (h : ¬ at' < en) : kidsF rd en f at' = ⟨[], 0, 0⟩ := by
 cases f with
 | zero => rfl
 | succ f => rw [kidsF, if_neg h]
def readH (b : List UInt8) (kids : Nat → Nat → SR) (at' en : Nat) (h : Hd) : SR :=
 if h.code ≠ 0 then .bad h.code (at' + h.off)
 else if en - at' < h.size + h.len then .bad 1 en
 else if h.k = false then ⟨[.mk at' (at' + h.size + h.len) h.c h.n false ((b.drop (at' + h.size)).take h.len) []], 0, 0⟩
 else if (kids (at' + h.size) (at' + h.size + h.len)).code ≠ 0 then .bad (kids (at' + h.size) (at' + h.size + h.len)).code (kids (at' + h.size) (at' + h.size + h.len)).off
 else ⟨[.mk at' (at' + h.size + h.len) h.c h.n true [] (kids (at' + h.size) (at' + h.size + h.len)).l], 0, 0⟩
def kidsS (rd : Nat → Nat → SR) (at' en : Nat) : SR := kidsF (fun p => rd p en) en (en - at') at'
def readS (b : List UInt8) : Nat → Nat → Nat → SR
 | 0, at', _ => .bad 5 at'
 | d + 1, at', en => readH b (kidsS (readS b d)) at' en (rhS ((b.drop at').take (en - at')))
def Rds (rd : Nat → SR) (en : Nat) : Prop := ∀ p, p ≤ en → ((rd p).code = 0 → ∃ s : S, rd p = ⟨[s], 0, 0⟩ ∧ p + 2 ≤ s.stop ∧ s.stop ≤ en) ∧ ((rd p).code ≠ 0 → (rd p).off ≤ en ∧ (rd p).l = [])
theorem kidsF_more {rd : Nat → SR} {en : Nat} (hr : Rds rd en) : ∀ (f g at' : Nat), en - at' ≤ f → f ≤ g → kidsF rd en g at' = kidsF rd en f at' := by
 intro f
 induction f with
 | zero =>
   intro g at' h1 h2
   rw [kidsF_out (by omega), kidsF_out (by omega)]
 | succ f ih =>
   intro g at' h1 h2
   obtain ⟨g, rfl⟩ : ∃ j, g = j + 1 := ⟨g - 1, by omega⟩
   by_cases h3 : at' < en
   ·by_cases h4 : (rd at').code ≠ 0
    ·rw [kidsF_no h3 h4, kidsF_no h3 h4]
    ·obtain ⟨s, e1, e2, e3⟩ := (hr at' (by omega)).1 (Decidable.not_not.1 h4)
     rw [kidsF_yes h3 e1, kidsF_yes h3 e1, ih g _ (by omega) (by omega)]
   ·rw [kidsF_out h3, kidsF_out h3]
theorem kidsS_end {rd : Nat → Nat → SR} {at' en : Nat} (h : ¬ at' < en) : kidsS rd at' en = ⟨[], 0, 0⟩ := kidsF_out h
theorem kidsS_bad {rd : Nat → Nat → SR} {at' en : Nat} (h : at' < en) (h1 : (rd at' en).code ≠ 0) : kidsS rd at' en = ⟨[], (rd at' en).code, (rd at' en).off⟩ := by
 obtain ⟨f, hf⟩ : ∃ f, en - at' = f + 1 := ⟨en - at' - 1, by omega⟩
 rw [kidsS, hf]
 exact kidsF_no (rd := fun p => rd p en) h h1
theorem kidsS_step {rd : Nat → Nat → SR} {at' en : Nat} {s : S} (hr : Rds (fun p => rd p en) en) (h : at' < en) (h1 : rd at' en = ⟨[s], 0, 0⟩) (h2 : at' < s.stop) : kidsS rd at' en = joinS s (kidsS rd s.stop en) := by
 obtain ⟨f, hf⟩ : ∃ f, en - at' = f + 1 := ⟨en - at' - 1, by omega⟩
 have e : kidsF (fun p => rd p en) en f s.stop = kidsS rd s.stop en := kidsF_more hr _ _ _ (Nat.le_refl _) (by omega)
 rw [kidsS, hf, kidsF_yes (rd := fun p => rd p en) h h1, e]
theorem kidsF_ok {rd : Nat → SR} {en : Nat} (hr : Rds rd en) : ∀ (f at' : Nat), ((kidsF rd en f at').code = 0 → kidsF rd en f at' = ⟨(kidsF rd en f at').l, 0, 0⟩) ∧ (kidsF rd en f at').off ≤ en := by
 intro f
 induction f with
 | zero => intro at'; exact ⟨fun _ => rfl, Nat.zero_le _⟩
 | succ f ih =>
   intro at'
   by_cases h3 : at' < en
   ·by_cases h4 : (rd at').code ≠ 0
    ·rw [kidsF_no h3 h4]
     exact ⟨fun h => absurd h h4, ((hr at' (by omega)).2 h4).1⟩
    ·obtain ⟨s, e1, e2, e3⟩ := (hr at' (by omega)).1 (Decidable.not_not.1 h4)
     rw [kidsF_yes h3 e1]
     by_cases h5 : (kidsF rd en f s.stop).code = 0
     ·rw [joinS_ok h5]
      exact ⟨fun _ => rfl, Nat.zero_le _⟩
     ·rw [joinS_bad h5]
      exact ⟨fun h => absurd h h5, (ih s.stop).2⟩
   ·rw [kidsF_out h3]
    exact ⟨fun _ => rfl, Nat.zero_le _⟩
theorem readS_rds (b : List UInt8) : ∀ (d en : Nat), en ≤ b.length → Rds (fun p => readS b d p en) en := by
 intro d
 induction d with
 | zero =>
   intro en hen p hp
   exact ⟨fun h => by simp [readS, SR.bad] at h, fun _ => ⟨by simp [readS, SR.bad]; exact hp, rfl⟩⟩
 | succ d ih =>
   intro en hen p hp
   have hB := rhS_bounds ((b.drop p).take (en - p))
   have hlen : ((b.drop p).take (en - p)).length = en - p := by simp; omega
   rw [hlen] at hB
   show ((readS b (d + 1) p en).code = 0 → _) ∧ _
   simp only [readS]
   generalize rhS ((b.drop p).take (en - p)) = h at hB ⊢
   obtain ⟨c1, c2, c3, c4, c5, c6, c7⟩ := hB
   unfold readH
   by_cases k1 : h.code ≠ 0
   ·rw [if_pos k1]
    exact ⟨fun h' => absurd h' k1, fun _ => ⟨by simp only [SR.bad]; omega, rfl⟩⟩
   rw [if_neg k1]
   by_cases k2 : en - p < h.size + h.len
   ·rw [if_pos k2]
    exact ⟨fun h' => by simp [SR.bad] at h', fun _ => ⟨by simp [SR.bad], rfl⟩⟩
   rw [if_neg k2]
   have c1' := c1 (Decidable.not_not.1 k1)
   by_cases k3 : h.k = false
   ·rw [if_pos k3]
    exact ⟨fun _ => ⟨_, rfl, by simp only [S.stop]; omega, by simp only [S.stop]; omega⟩, fun h' => by simp at h'⟩
   rw [if_neg k3]
   have hR := ih (p + h.size + h.len) (by omega)
   have hK := kidsF_ok hR (p + h.size + h.len - (p + h.size)) (p + h.size)
   by_cases k4 : (kidsS (readS b d) (p + h.size) (p + h.size + h.len)).code ≠ 0
   ·rw [if_pos k4]
    have h9 : (kidsS (readS b d) (p + h.size) (p + h.size + h.len)).off ≤ p + h.size + h.len := hK.2
    exact ⟨fun h' => absurd h' k4, fun _ => ⟨by simp only [SR.bad]; omega, rfl⟩⟩
   ·rw [if_neg k4]
    exact ⟨fun _ => ⟨_, rfl, by simp only [S.stop]; omega, by simp only [S.stop]; omega⟩, fun h' => by simp at h'⟩
def spotZ : AV := .agg [iv 0, iv 0, iv 0, iv 0, bv false, nilA, nilA, nilA]
def spotA (x : S) : AV := .agg ((spotC true x).map AV.d)
def trA (r : SR) : AV := match r with
 | ⟨x :: _, 0, _⟩ => .tup [spotA x, erA 0 0]
 | r => .tup [spotZ, erA r.code r.off]
theorem trA_ok (x : S) : trA ⟨[x], 0, 0⟩ = .tup [spotA x, erA 0 0] := rfl
theorem trA_bad {r : SR} (h : r.code ≠ 0) : trA r = .tup [spotZ, erA r.code r.off] := by
 obtain ⟨l, c, o⟩ := r
 cases c with
 | zero => exact absurd rfl h
 | succ c => cases l <;> rfl
set_option maxRecDepth 100000 in
set_option maxHeartbeats 8000000 in
theorem rdFail_any (c o : Int) : ACalls Tryz.prog 205 [iv c, iv o] (fun r => r = .tup [spotZ, erA c o]) := by
 refine acalls_vc 10 _ tabOk mixed Tryz.func205 rfl (by kernel_rfl) rfl rfl rfl rfl fun W0 fp0 z0 => ?_
 (all_goals (conv => whnf))
 (refine NEnd.eq ?_; (repeat' (first | exact leW_refl _ | refine And.intro ?_ ?_ | exact rfl)))
end Go.Proofs.YtblabcopgeobgaaGreatDoor

namespace Go.Proofs.YtblabcopgeobgaaGreatDoor
open Go.RowKit
abbrev nodeT : S → List D := nodeC true
abbrev spotT : S → List D := spotC true
set_option maxRecDepth 100000 in
set_option maxHeartbeats 8000000 in
theorem read_kids (b : List UInt8) (hb : b.length ≤ 1000000000) (d at' en cc nn ll sz off : Nat) (hd : d < 1000) (h1 : at' ≤ en) (h2 : en ≤ b.length) (hsz : 2 ≤ sz) (h3 : sz + ll ≤ en - at')
 (hR : ACalls Tryz.prog 92 [.d (bytesD false ((b.drop at').take (en - at')))] (fun r => r = .tup [.agg [iv cc, iv nn, bv true, iv ll, iv sz], erA 0 off]))
 (ih : ∀ (p q : Nat), p ≤ q → q ≤ b.length → ACalls Tryz.prog 178 [.d (bytesD false b), iv p, iv q, iv d] (fun r => r = trA (readS b d p q))) :
 ACalls Tryz.prog 178 [.d (bytesD false b), iv at', iv en, iv (d + 1 : Nat)] (fun r => r = trA (readH b (kidsS (readS b d)) at' en ⟨cc, nn, true, ll, sz, 0, off⟩)) := by
 have hRd := readS_rds b d (at' + sz + ll) (by omega)
 have hF : (kidsS (readS b d) (at' + sz) (at' + sz + ll)).code ≠ 0 → readH b (kidsS (readS b d)) at' en ⟨cc, nn, true, ll, sz, 0, off⟩ = .bad (kidsS (readS b d) (at' + sz) (at' + sz + ll)).code (kidsS (readS b d) (at' + sz) (at' + sz + ll)).off := fun h => by
  unfold readH
  rw [if_neg (fun x => x rfl), if_neg (show ¬ en - at' < sz + ll by omega), if_neg (fun x => by cases x), if_pos h]
 have hO : (kidsS (readS b d) (at' + sz) (at' + sz + ll)).code = 0 → readH b (kidsS (readS b d)) at' en ⟨cc, nn, true, ll, sz, 0, off⟩ = ⟨[.mk at' (at' + sz + ll) cc nn true [] (kidsS (readS b d) (at' + sz) (at' + sz + ll)).l], 0, 0⟩ := fun h => by
  unfold readH
  rw [if_neg (fun x => x rfl), if_neg (show ¬ en - at' < sz + ll by omega), if_neg (fun x => by cases x), if_neg (fun x => x h)]
 generalize hK : kidsS (readS b d) (at' + sz) (at' + sz + ll) = K0 at hF hO
 refine acalls_vc 125 _ tabOk mixed Tryz.func178 rfl (by kernel_rfl) rfl rfl rfl rfl fun W0 fp0 z0 => ?_
 (repeat' ((conv => whnf); first | refine NBr.no ?_ | refine NCall.eq (hR) (by first | rfl | (simp only [AV.gives, AV.give, D.un, uns_bytesL]; first | done | rfl)) ?_ | refine NSl.slice (at') (en) ?_ | (with_reducible refine NInt.i64 ?_) | (refine NBr.dec (fun hc hcP => ?_) (fun hc hcP => ?_) <;> try (exfalso; omega)))); (all_goals (conv => whnf))
 refine NLoop.goA [.b 14 6 1000 5 80, .b 14 7 1001 8 212] (fun z : Nat × List S => z.1 ≤ at' + sz + ll ∧ z.2.length ≤ z.1 ∧ (kidsS (readS b d) z.1 (at' + sz + ll)).code = K0.code ∧ (K0.code ≠ 0 → (kidsS (readS b d) z.1 (at' + sz + ll)).off = K0.off) ∧ (K0.code = 0 → K0.l = z.2 ++ (kidsS (readS b d) z.1 (at' + sz + ll)).l)) (fun z => at' + sz + ll - z.1)
  (fun z => ⟨[(0, .d (bytesD false b)), (3, iv (d + 1 : Nat)), (8, .ptr 8 0), (9, .ptr 9 0), (13, iv z.1), (14, .ptr 14 0)], [(8, [iv 0, iv 0, iv 0, iv 0, bv false, nilA, nilA, nilA]), (9, [iv 0, iv 0]), (14, [iv at', iv (at' + sz + ll : Nat), iv cc, iv nn, bv true, nilA, ownT 1000 5 80 nodeT z.2, ownT 1001 8 212 spotT z.2])], [(1000, (z.2.length, 5, 80)), (1001, (z.2.length, 8, 212))]⟩) (at' + sz, []) ⟨by simp only []; omega, by simp, by rw [hK], fun _ => by rw [hK], fun _ => by rw [hK]; rfl⟩ (by ((repeat' (first | exact trivial | exact leW_refl _ | refine And.intro ?_ ?_ | exact rfl)))) ?_
 ·rintro ⟨p, acc⟩ ⟨hp, hacc, e1, e2, e3⟩
  simp only [] at hp hacc e1 e2 e3
  by_cases h5 : p < at' + sz + ll
  ·have hrec := ih p (at' + sz + ll) (by omega) (by omega)
   by_cases h6 : (readS b d p (at' + sz + ll)).code ≠ 0
   ·rw [kidsS_bad h5 h6] at e1 e2
    have h7 : K0.code ≠ 0 := by rw [← e1]; exact h6
    rw [trA_bad h6, show (readS b d p (at' + sz + ll)).code = K0.code from e1, show (readS b d p (at' + sz + ll)).off = K0.off from e2 h7] at hrec
    rw [hF h7, trA_bad (show (SR.bad K0.code K0.off).code ≠ 0 from h7)]
    (repeat' ((conv => whnf); first | refine NCall.eq (hrec) (by first | rfl | (simp only [AV.gives, AV.give, D.un, un_bytesD]; first | done | rfl)) ?_ | refine NInt.as (((d : Nat) : Int) ) ( (by rw [IntWalk.i64_in _ (by omega)]; omega)) ?_ | refine NFact.go ⟨by decide +kernel, by kernel_rfl⟩ ?_ | (refine NBr.dec (fun hc hcP => ?_) (fun hc hcP => ?_) <;> try (exfalso; omega)) | (refine NBr.bne (fun hc hcP => ?_) (fun hc hcP => ?_) <;> try (exfalso; omega)))); (all_goals (conv => whnf))
    all_goals (refine NEnd.eq ?_; (repeat' (first | exact leW_refl _ | refine And.intro ?_ ?_ | exact rfl)))
   ·obtain ⟨s, r1, r2, r3⟩ := (hRd p (by omega)).1 (Decidable.not_not.1 h6)
    obtain ⟨a, q, c, n, k, b', ks⟩ := s
    have r1' : readS b d p (at' + sz + ll) = ⟨[S.mk a q c n k b' ks], 0, 0⟩ := r1
    have r2' : p + 2 ≤ q := r2
    have r3' : q ≤ at' + sz + ll := r3
    rw [r1', trA_ok] at hrec
    have hrec' : ACalls Tryz.prog 178 [.d (bytesD false b), iv p, iv (at' + sz + ll : Nat), iv d] (fun r => r = .tup [.agg [iv a, iv q, iv c, iv n, bv k, .d (bytesD true b'), .d (.sl true ks.length 5 (nodesC true ks)), .d (.sl true ks.length 8 (spotsC true ks))], erA 0 0]) := hrec
    have hst := kidsS_step hRd h5 r1' (show p < q by omega)
    have hst' : kidsS (readS b d) p (at' + sz + ll) = joinS (S.mk a q c n k b' ks) (kidsS (readS b d) q (at' + sz + ll)) := hst
    have e1' : (kidsS (readS b d) q (at' + sz + ll)).code = K0.code := by
     rw [← e1, hst']
     by_cases h9 : (kidsS (readS b d) q (at' + sz + ll)).code = 0
     ·rw [joinS_ok h9]; exact h9
     ·rw [joinS_bad h9]
    have e2' : K0.code ≠ 0 → (kidsS (readS b d) q (at' + sz + ll)).off = K0.off := fun h => by
     rw [← e2 h, hst', joinS_bad (by rw [e1']; exact h)]
    have e3' : K0.code = 0 → K0.l = (acc ++ [S.mk a q c n k b' ks]) ++ (kidsS (readS b d) q (at' + sz + ll)).l := fun h => by
     rw [e3 h, hst', joinS_ok (by rw [e1']; exact h)]; simp
    clear hst hst' r1 r2 r3 hrec e1 e2 e3
    (repeat' ((conv => whnf); first | refine NBr.no ?_ | refine NCall.eq (hrec') (by first | rfl | (simp only [AV.gives, AV.give, D.un, un_bytesD]; first | done | rfl)) ?_ | refine NInt.as (((d : Nat) : Int) ) ( (by rw [IntWalk.i64_in _ (by omega)]; omega)) ?_ | refine NApp.one nodeT (S.mk a q c n k b' ks) ?_ | refine NApp.one spotT (S.mk a q c n k b' ks) ?_ | (refine NBr.dec (fun hc hcP => ?_) (fun hc hcP => ?_) <;> try (exfalso; omega)))); (all_goals (conv => whnf))
    refine ⟨(q, acc ++ [S.mk a q c n k b' ks]), ⟨by simp only []; omega, by simp only [List.length_append, List.length_cons, List.length_nil] at *; omega, e1', e2', e3'⟩, by simp only []; omega, ?_⟩
    ((repeat' (first | exact trivial | exact leW_refl _ | refine And.intro ?_ ?_ | exact rfl)))
  ·rw [kidsS_end h5] at e1 e3
   have h7 : K0.code = 0 := e1.symm
   have h8 := e3 h7
   rw [hO h7, h8, List.append_nil]
   (repeat' ((conv => whnf); (refine NBr.dec (fun hc hcP => ?_) (fun hc hcP => ?_) <;> try (exfalso; omega)))); (all_goals (conv => whnf))
   all_goals (refine NEnd.eq ?_; (repeat' (first | exact trivial | exact leW_refl _ | refine And.intro ?_ ?_ | exact rfl)); (all_goals (conv => whnf)))
   all_goals first | exact (nodesC_eq true acc).symm | exact (spotsC_eq true acc).symm
end Go.Proofs.YtblabcopgeobgaaGreatDoor

namespace Go.Proofs.YtblabcopgeobgaaGreatDoor
open Go.RowKit
set_option maxRecDepth 100000 in
set_option maxHeartbeats 8000000 in
theorem read_any (b : List UInt8) (hb : b.length ≤ 1000000000) : ∀ (d at' en : Nat), d ≤ 1000 → at' ≤ en → en ≤ b.length → ACalls Tryz.prog 178 [.d (bytesD false b), iv at', iv en, iv d] (fun r => r = trA (readS b d at' en)) := by
 intro d
 induction d with
 | zero =>
   intro at' en hd h1 h2
   refine acalls_vc 125 _ tabOk mixed Tryz.func178 rfl (by kernel_rfl) rfl rfl rfl rfl fun W0 fp0 z0 => ?_
   (repeat' ((conv => whnf); first | refine NBr.yes ?_ | refine NCall.eq (rdFail_any 5 at') (by rfl) ?_)); (all_goals (conv => whnf))
   all_goals (refine NEnd.eq ?_; (repeat' (first | exact leW_refl _ | refine And.intro ?_ ?_ | exact rfl)))
 | succ d ih =>
   intro at' en hd h1 h2
   have hlen : ((b.drop at').take (en - at')).length = en - at' := by simp; omega
   have hR := readHead_any ((b.drop at').take (en - at')) (by omega)
   have hB := rhS_bounds ((b.drop at').take (en - at'))
   have hRd := readS_rds b d
   rw [hlen] at hB
   rw [readS]
   generalize hh : rhS ((b.drop at').take (en - at')) = h at hR hB ⊢
   obtain ⟨c1, c2, c3, c4, c5, c6, c7⟩ := hB
   by_cases k1 : h.code = 0
   ·have c1' := c1 k1
    by_cases k2 : en - at' < h.size + h.len
    ·rw [readH, if_neg (by omega), if_pos k2]
     refine acalls_vc 125 _ tabOk mixed Tryz.func178 rfl (by kernel_rfl) rfl rfl rfl rfl fun W0 fp0 z0 => ?_
     (repeat' ((conv => whnf); first | refine NBr.no ?_ | refine NCall.eq (hR) (by first | rfl | (simp only [AV.gives, AV.give, D.un, uns_bytesL]; first | done | rfl)) ?_ | refine NSl.slice (at') (en) ?_ | refine NCall.eq (rdFail_any _ _) (by rfl) ?_ | (with_reducible refine NInt.i64 ?_) | (refine NBr.dec (fun hc hcP => ?_) (fun hc hcP => ?_) <;> try (exfalso; omega)) | (refine NBr.bne (fun hc hcP => ?_) (fun hc hcP => ?_) <;> try (exfalso; omega)))); (all_goals (conv => whnf))
     all_goals (refine NEnd.eq ?_; (repeat' (first | exact leW_refl _ | refine And.intro ?_ ?_ | exact rfl)))
     all_goals rfl
    ·obtain ⟨cc, nn, kk, ll, sz, cd, of⟩ := h
     have k2' : ¬ en - at' < sz + ll := k2
     have k1' : ¬ cd ≠ 0 := fun x => x k1
     have k0 : cd = 0 := k1
     have c1a : 2 ≤ sz := c1'.1
     have c1b : sz ≤ en - at' := c1'.2.1
     have c4a : ll ≤ 2147483647 := c4
     have hq : at' + sz + ll - (at' + sz) = ll := by omega
     have hR' : ACalls Tryz.prog 92 [.d (bytesD false ((b.drop at').take (en - at')))] (fun r => r = .tup [.agg [iv cc, iv nn, bv kk, iv ll, iv sz], erA cd of]) := hR
     cases kk with
     | false =>
       have hC := clone_any ((b.drop (at' + sz)).take (at' + sz + ll - (at' + sz))) (by rw [List.length_take]; omega)
       have e : readH b (kidsS (readS b d)) at' en ⟨cc, nn, false, ll, sz, cd, of⟩ = ⟨[.mk at' (at' + sz + ll) cc nn false ((b.drop (at' + sz)).take (at' + sz + ll - (at' + sz))) []], 0, 0⟩ := by
        rw [hq]; unfold readH
        rw [if_neg k1', if_neg k2', if_pos rfl]
       rw [e]
       refine acalls_vc 125 _ tabOk mixed Tryz.func178 rfl (by kernel_rfl) rfl rfl rfl rfl fun W0 fp0 z0 => ?_
       (repeat' ((conv => whnf); first | refine NBr.yes ?_ | refine NBr.no ?_ | refine NCall.eq (hR') (by first | rfl | (simp only [AV.gives, AV.give, D.un, uns_bytesL]; first | done | rfl)) ?_ | refine NSl.slice (at') (en) ?_ | refine NSl.slice (at' + sz) (at' + sz + ll) ?_ | refine NCall.eq (hC) (by first | rfl | (simp only [AV.gives, AV.give, D.un, uns_bytesL]; first | done | rfl)) ?_ | (with_reducible refine NInt.i64 ?_) | (refine NBr.dec (fun hc hcP => ?_) (fun hc hcP => ?_) <;> try (exfalso; omega)) | (refine NBr.bne (fun hc hcP => ?_) (fun hc hcP => ?_) <;> try (exfalso; omega)))); (all_goals (conv => whnf))
       all_goals (refine NEnd.eq ?_; (repeat' (first | exact trivial | exact leW_refl _ | refine And.intro ?_ ?_ | exact rfl)))
       all_goals rfl
     | true =>
       subst k0
       exact read_kids b hb d at' en cc nn ll sz of (by omega) h1 h2 c1a (by omega) hR' (fun p q hp hq' => ih p q (by omega) hp hq')
   ·have e : readH b (kidsS (readS b d)) at' en h = .bad h.code (at' + h.off) := by rw [readH, if_pos k1]
    rw [e, trA_bad k1]
    refine acalls_vc 125 _ tabOk mixed Tryz.func178 rfl (by kernel_rfl) rfl rfl rfl rfl fun W0 fp0 z0 => ?_
    (repeat' ((conv => whnf); first | refine NBr.no ?_ | refine NCall.eq (hR) (by first | rfl | (simp only [AV.gives, AV.give, D.un, uns_bytesL]; first | done | rfl)) ?_ | refine NSl.slice (at') (en) ?_ | refine NCall.eq (rdFail_any _ _) (by rfl) ?_ | (with_reducible refine NInt.i64 ?_) | (refine NBr.bne (fun hc hcP => ?_) (fun hc hcP => ?_) <;> try (exfalso; omega)))); (all_goals (conv => whnf))
    all_goals (refine NEnd.eq ?_; (repeat' (first | exact leW_refl _ | refine And.intro ?_ ?_ | exact rfl)))
    all_goals rfl
end Go.Proofs.YtblabcopgeobgaaGreatDoor

namespace Go.Proofs.YtblabcopgeobgaaGreatDoor
open Go.RowKit
set_option maxRecDepth 100000
set_option maxHeartbeats 8000000
def wholeR (n : Nat) : SR → SR
 | ⟨s :: _, 0, _⟩ => if s.stop < n then .bad 2 s.stop else ⟨[s], 0, 0⟩
 | r => .bad r.code r.off
def wholeS (b : List UInt8) : SR := wholeR b.length (readS b 16 0 b.length)
theorem wholeR_long {n : Nat} {s : S} (h : s.stop < n) : wholeR n ⟨[s], 0, 0⟩ = .bad 2 s.stop := if_pos h
theorem wholeR_ok {n : Nat} {s : S} (h : ¬ s.stop < n) : wholeR n ⟨[s], 0, 0⟩ = ⟨[s], 0, 0⟩ := if_neg h
theorem wholeR_bad {n c o : Nat} : wholeR n ⟨[], c, o⟩ = .bad c o := by cases c <;> rfl
theorem whole_any (b : List UInt8) (hb : b.length ≤ 1000000000) : ACalls Tryz.prog 155 [.d (bytesD false b)] (fun r => r = trA (wholeS b)) := by
 have hR := read_any b hb 16 0 b.length (by omega) (by omega) (by omega)
 have hF := readS_rds b 16 b.length (by omega) 0 (by omega)
 dsimp only at hF
 unfold wholeS
 generalize readS b 16 0 b.length = r at hR hF
 by_cases h : r.code = 0
 ·obtain ⟨s, rfl, h1, h2⟩ := hF.1 h
  obtain ⟨a, q, c, n, k, b', ks⟩ := s
  simp only [S.stop] at h1 h2
  rw [trA_ok] at hR
  have hR' : ACalls Tryz.prog 178 [.d (bytesD false b), iv 0, iv b.length, iv 16] (fun r => r = .tup [.agg [iv a, iv q, iv c, iv n, bv k, .d (bytesD true b'), .d (.sl true ks.length 5 (nodesC true ks)), .d (.sl true ks.length 8 (spotsC true ks))], erA 0 0]) := hR
  by_cases h3 : q < b.length
  ·rw [wholeR_long (show (S.mk a q c n k b' ks).stop < b.length from h3)]
   refine acalls_vc 29 _ tabOk mixed Tryz.func155 rfl (by kernel_rfl) rfl rfl rfl rfl fun W0 fp0 z0 => ?_
   (repeat' ((conv => whnf); first | refine NBr.yes ?_ | refine NCall.eq (hR') (by first | rfl | (simp only [AV.gives, AV.give, D.un, un_bytesD]; first | done | rfl)) ?_ | refine NFact.go ⟨by decide +kernel, by kernel_rfl⟩ ?_ | (refine NBr.dec (fun hc hcP => ?_) (fun hc hcP => ?_) <;> try (exfalso; omega)))); (all_goals (conv => whnf))
   all_goals (refine NEnd.eq ?_; (repeat' (first | exact leW_refl _ | refine And.intro ?_ ?_ | exact rfl)))
  ·rw [wholeR_ok (show ¬ (S.mk a q c n k b' ks).stop < b.length from h3)]
   refine acalls_vc 29 _ tabOk mixed Tryz.func155 rfl (by kernel_rfl) rfl rfl rfl rfl fun W0 fp0 z0 => ?_
   (repeat' ((conv => whnf); first | refine NBr.yes ?_ | refine NCall.eq (hR') (by first | rfl | (simp only [AV.gives, AV.give, D.un, un_bytesD]; first | done | rfl)) ?_ | refine NFact.go ⟨by decide +kernel, by kernel_rfl⟩ ?_ | (refine NBr.dec (fun hc hcP => ?_) (fun hc hcP => ?_) <;> try (exfalso; omega)))); (all_goals (conv => whnf))
   all_goals (refine NEnd.eq ?_; (repeat' (first | exact leW_refl _ | refine And.intro ?_ ?_ | exact rfl)))
 ·rw [trA_bad h] at hR
  obtain ⟨l, c, o⟩ := r
  have hl : l = [] := (hF.2 h).2
  subst hl
  have h' : ¬ c = 0 := h
  have hR' : ACalls Tryz.prog 178 [.d (bytesD false b), iv 0, iv b.length, iv 16] (fun r => r = .tup [spotZ, erA c o]) := hR
  rw [wholeR_bad]
  refine acalls_vc 29 _ tabOk mixed Tryz.func155 rfl (by kernel_rfl) rfl rfl rfl rfl fun W0 fp0 z0 => ?_
  (repeat' ((conv => whnf); first | refine NBr.no ?_ | refine NCall.eq (hR') (by first | rfl | (simp only [AV.gives, AV.give, D.un, un_bytesD]; first | done | rfl)) ?_ | refine NFact.go ⟨by decide +kernel, by kernel_rfl⟩ ?_ | (refine NBr.dec (fun hc hcP => ?_) (fun hc hcP => ?_) <;> try (exfalso; omega)))); (all_goals (conv => whnf))
  all_goals (refine NEnd.eq ?_; (repeat' (first | exact leW_refl _ | refine And.intro ?_ ?_ | exact rfl)))
theorem parse_any (b : List UInt8) (hb : b.length ≤ 1000000000) : ACalls Tryz.prog 131 [.d (bytesD false b)] (fun r => r = .tup [.agg ((match wholeS b with
 | ⟨s :: _, 0, _⟩ => nodeC true s
 | _ => [.v (.int .i64 0), .v (.int .i64 0), .v (.bool false), .v (.slice none 0 0), .v (.slice none 0 0)]).map AV.d), erA (wholeS b).code (wholeS b).off]) := by
 have hR := whole_any b hb
 have hF := readS_rds b 16 b.length (by omega) 0 (by omega)
 dsimp only at hF
 have hW : ((wholeS b).code = 0 → ∃ s, wholeS b = ⟨[s], 0, 0⟩) ∧ ((wholeS b).code ≠ 0 → (wholeS b).l = []) := by
  unfold wholeS
  generalize readS b 16 0 b.length = r at hF
  by_cases h : r.code = 0
  ·obtain ⟨s, rfl, h1, h2⟩ := hF.1 h
   by_cases h3 : s.stop < b.length
   ·rw [wholeR_long h3]; simp [SR.bad]
   ·rw [wholeR_ok h3]; simp
  ·obtain ⟨l, c, o⟩ := r
   have hl : l = [] := (hF.2 h).2
   subst hl
   have h' : ¬ c = 0 := h
   rw [wholeR_bad]; simp [SR.bad, h']
 generalize wholeS b = r at hR hW ⊢
 by_cases h : r.code = 0
 ·obtain ⟨s, rfl⟩ := hW.1 h
  obtain ⟨a, q, c, n, k, b', ks⟩ := s
  rw [trA_ok] at hR
  have hR' : ACalls Tryz.prog 155 [.d (bytesD false b)] (fun r => r = .tup [.agg [iv a, iv q, iv c, iv n, bv k, .d (bytesD true b'), .d (.sl true ks.length 5 (nodesC true ks)), .d (.sl true ks.length 8 (spotsC true ks))], erA 0 0]) := hR
  refine acalls_vc 14 _ tabOk mixed Tryz.func131 rfl (by kernel_rfl) rfl rfl rfl rfl fun W0 fp0 z0 => ?_
  (repeat' ((conv => whnf); first | refine NCall.eq (hR') (by first | rfl | (simp only [AV.gives, AV.give, un_bytesD]; first | done | rfl)) ?_ | refine NFact.go ⟨by decide +kernel, by kernel_rfl⟩ ?_)); (all_goals (conv => whnf))
  all_goals (refine NEnd.eq ?_; (repeat' (first | exact leW_refl _ | refine And.intro ?_ ?_ | exact rfl)))
 ·rw [trA_bad h] at hR
  obtain ⟨l, c, o⟩ := r
  have hl : l = [] := hW.2 h
  subst hl
  have h' : ¬ c = 0 := h
  have hR' : ACalls Tryz.prog 155 [.d (bytesD false b)] (fun r => r = .tup [spotZ, erA c o]) := hR
  refine acalls_vc 14 _ tabOk mixed Tryz.func131 rfl (by kernel_rfl) rfl rfl rfl rfl fun W0 fp0 z0 => ?_
  (repeat' ((conv => whnf); first | refine NCall.eq (hR') (by first | rfl | (simp only [AV.gives, AV.give, un_bytesD]; first | done | rfl)) ?_ | refine NFact.go ⟨by decide +kernel, by kernel_rfl⟩ ?_)); (all_goals (conv => whnf))
  all_goals (refine NEnd.eq ?_; (repeat' (first | exact leW_refl _ | refine And.intro ?_ ?_ | exact rfl)))
end Go.Proofs.YtblabcopgeobgaaGreatDoor

namespace Go.Proofs.YtblabcopgeobgaaGreatDoor
open Go.RowKit
inductive Tr where
 | mk (c n : Nat) (k : Bool) (b : List UInt8) (ks : List Tr)
mutual
def Tr.cells (t : Bool) : Tr → List D
 | .mk c n k b ks => [.v (.int .i64 c), .v (.int .i64 n), .v (.bool k), bytesD t b, .sl t ks.length 5 (Tr.cellss t ks)]
def Tr.cellss (t : Bool) : List Tr → List D
 | [] => []
 | s :: r => s.cells t ++ Tr.cellss t r
end
theorem Tr.cellss_eq (t : Bool) (l : List Tr) : Tr.cellss t l = l.flatMap (Tr.cells t) := by
 induction l with
 | nil => rw [Tr.cellss]; rfl
 | cons s r ih => rw [Tr.cellss, ih, List.flatMap_cons]
theorem Tr.cells_len (t : Bool) (s : Tr) : (s.cells t).length = 5 := by cases s; rw [Tr.cells]; rfl
theorem Tr.cells_un (t : Bool) : ∀ s : Tr, D.uns (s.cells t) = s.cells false
 | .mk c n k b ks => by
   have h : ∀ l : List Tr, (∀ s, s ∈ l → D.uns (s.cells t) = s.cells false) → D.uns (Tr.cellss t l) = Tr.cellss false l := by
    intro l
    induction l with
    | nil => intro _; rw [Tr.cellss, Tr.cellss]; rfl
    | cons s r ih =>
      intro hs
      rw [Tr.cellss, Tr.cellss, D.uns_eq, List.map_append, ← D.uns_eq, ← D.uns_eq, hs s (by simp), ih fun x hx => hs x (by simp [hx])]
   have hk := h ks fun s hs => Tr.cells_un t s
   rw [Tr.cells, Tr.cells]
   simp only [D.uns, D.un, un_bytesD, hk]
termination_by s => SizeOf.sizeOf s
decreasing_by
 have := List.sizeOf_lt_of_mem hs
 simp only [Tr.mk.sizeOf_spec]; omega
theorem Tr.cellss_un (t : Bool) (l : List Tr) : D.uns (Tr.cellss t l) = Tr.cellss false l := by
 induction l with
 | nil => rw [Tr.cellss, Tr.cellss]; rfl
 | cons s r ih => rw [Tr.cellss, Tr.cellss, D.uns_eq, List.map_append, ← D.uns_eq, ← D.uns_eq, Tr.cells_un, ih]
structure TR where
 l : List Tr
 size : Nat
 code : Nat
 off : Nat
def TR.bad (code off : Nat) : TR := ⟨[], 0, code, off⟩
def joinT (sz : Nat) (x : Tr) (r : TR) : TR := if r.code = 0 then ⟨x :: r.l, 0, 0, 0⟩ else .bad r.code (sz + r.off)
theorem joinT_ok {sz : Nat} {x : Tr} {r : TR} (h : r.code = 0) : joinT sz x r = ⟨x :: r.l, 0, 0, 0⟩ := if_pos h
theorem joinT_bad {sz : Nat} {x : Tr} {r : TR} (h : r.code ≠ 0) : joinT sz x r = .bad r.code (sz + r.off) := if_neg h
def kT (rd : List UInt8 → TR) : Nat → List UInt8 → TR
 | 0, _ => ⟨[], 0, 0, 0⟩
 | f + 1, l => if l.length = 0 then ⟨[], 0, 0, 0⟩ else match rd l with
   | ⟨t :: _, sz, 0, _⟩ => joinT sz t (kT rd f (l.drop sz))
   | r => .bad r.code r.off
def kidsT (rd : List UInt8 → TR) (l : List UInt8) : TR := kT rd l.length l
theorem kT_end {rd : List UInt8 → TR} {f : Nat} {l : List UInt8} (h : l.length = 0) : kT rd f l = ⟨[], 0, 0, 0⟩ := by
 cases f with
 | zero => rfl
 | succ f => rw [kT, if_pos h]
theorem kT_yes {rd : List UInt8 → TR} {f : Nat} {l : List UInt8} {t : Tr} {sz : Nat} (h : l.length ≠ 0) (h1 : rd l = ⟨[t], sz, 0, 0⟩) : kT rd (f + 1) l = joinT sz t (kT rd f (l.drop sz)) := by
 rw [kT, if_neg h, h1]; rfl
theorem kT_no {rd : List UInt8 → TR} {f : Nat} {l : List UInt8} (h : l.length ≠ 0) (h1 : (rd l).code ≠ 0) : kT rd (f + 1) l = .bad (rd l).code (rd l).off := by
 rw [kT, if_neg h]
 generalize rd l = r at *
 obtain ⟨l, s, c, o⟩ := r
 cases c with
 | zero => exact absurd rfl h1
 | succ c => cases l <;> rfl
def RdT (rd : List UInt8 → TR) : Prop := ∀ l, ((rd l).code = 0 → ∃ t sz, rd l = ⟨[t], sz, 0, 0⟩ ∧ 2 ≤ sz ∧ sz ≤ l.length) ∧ ((rd l).code ≠ 0 → (rd l).off ≤ l.length ∧ (rd l).l = [] ∧ (rd l).size = 0 ∧ (rd l).code ≤ 9)
theorem kT_more {rd : List UInt8 → TR} (hr : RdT rd) : ∀ (f g : Nat) (l : List UInt8), l.length ≤ f → f ≤ g → kT rd g l = kT rd f l := by
 intro f
 induction f with
 | zero => intro g l h1 h2; rw [kT_end (by omega), kT_end (by omega)]
 | succ f ih =>
   intro g l h1 h2
   obtain ⟨g, rfl⟩ : ∃ j, g = j + 1 := ⟨g - 1, by omega⟩
   by_cases h3 : l.length = 0
   ·rw [kT_end h3, kT_end h3]
   ·by_cases h4 : (rd l).code = 0
    ·obtain ⟨t, sz, e1, e2, e3⟩ := (hr l).1 h4
     rw [kT_yes h3 e1, kT_yes h3 e1, ih g _ (by rw [List.length_drop]; omega) (by omega)]
    ·rw [kT_no h3 h4, kT_no h3 h4]
theorem kidsT_end {rd : List UInt8 → TR} {l : List UInt8} (h : l.length = 0) : kidsT rd l = ⟨[], 0, 0, 0⟩ := kT_end h
theorem kidsT_bad {rd : List UInt8 → TR} {l : List UInt8} (h : l.length ≠ 0) (h1 : (rd l).code ≠ 0) : kidsT rd l = .bad (rd l).code (rd l).off := by
 obtain ⟨f, hf⟩ : ∃ f, l.length = f + 1 := ⟨l.length - 1, by omega⟩
 rw [kidsT, hf]; exact kT_no h h1
theorem kidsT_step {rd : List UInt8 → TR} (hr : RdT rd) {l : List UInt8} {t : Tr} {sz : Nat} (h : l.length ≠ 0) (h1 : rd l = ⟨[t], sz, 0, 0⟩) : kidsT rd l = joinT sz t (kidsT rd (l.drop sz)) := by
 obtain ⟨f, hf⟩ : ∃ f, l.length = f + 1 := ⟨l.length - 1, by omega⟩
 have h2 : (rd l).code = 0 := by rw [h1]
 obtain ⟨t', sz', e1, e2, e3⟩ := (hr l).1 h2
 have hs : sz' = sz := by rw [h1] at e1; cases e1; rfl
 subst hs
 rw [kidsT, hf, kT_yes h h1, kidsT, kT_more hr (l.drop sz').length f _ (Nat.le_refl _) (by rw [List.length_drop]; omega)]
theorem kidsT_facts {rd : List UInt8 → TR} (hr : RdT rd) : ∀ (f : Nat) (l : List UInt8), l.length ≤ f → ((kidsT rd l).code = 0 → kidsT rd l = ⟨(kidsT rd l).l, 0, 0, 0⟩) ∧ ((kidsT rd l).code ≠ 0 → (kidsT rd l).off ≤ l.length ∧ (kidsT rd l).code ≤ 9) := by
 intro f
 induction f with
 | zero => intro l h; rw [kidsT_end (by omega)]; exact ⟨fun _ => rfl, fun h => absurd rfl h⟩
 | succ f ih =>
   intro l h
   by_cases h3 : l.length = 0
   ·rw [kidsT_end h3]; exact ⟨fun _ => rfl, fun h => absurd rfl h⟩
   ·by_cases h4 : (rd l).code = 0
    ·obtain ⟨t, sz, e1, e2, e3⟩ := (hr l).1 h4
     have ih' := ih (l.drop sz) (by rw [List.length_drop]; omega)
     rw [kidsT_step hr h3 e1]
     by_cases h5 : (kidsT rd (l.drop sz)).code = 0
     ·rw [joinT_ok h5]; exact ⟨fun _ => rfl, fun h => absurd rfl h⟩
     ·rw [joinT_bad h5]
      have := ih'.2 h5
      rw [List.length_drop] at this
      exact ⟨fun h => absurd h h5, fun _ => ⟨by simp only [TR.bad]; omega, this.2⟩⟩
    ·rw [kidsT_bad h3 h4]
     exact ⟨fun h => absurd h h4, fun _ => ⟨((hr l).2 h4).1, ((hr l).2 h4).2.2.2⟩⟩
def rTH (rd : List UInt8 → TR) (l : List UInt8) (h : Hd) : TR :=
 if h.code ≠ 0 then .bad h.code h.off
 else if l.length < h.size + h.len then .bad 1 l.length
 else if h.k = false then ⟨[.mk h.c h.n false ((l.drop h.size).take h.len) []], h.size + h.len, 0, 0⟩
 else if (kidsT rd ((l.drop h.size).take h.len)).code ≠ 0 then .bad (kidsT rd ((l.drop h.size).take h.len)).code (h.size + (kidsT rd ((l.drop h.size).take h.len)).off)
 else ⟨[.mk h.c h.n true [] (kidsT rd ((l.drop h.size).take h.len)).l], h.size + h.len, 0, 0⟩
def rT : Nat → List UInt8 → TR
 | 0, _ => .bad 5 0
 | d + 1, l => rTH (rT d) l (rhS l)
theorem rT_rd : ∀ d, RdT (rT d) := by
 intro d
 induction d with
 | zero => intro l; exact ⟨fun h => by simp [rT, TR.bad] at h, fun _ => by simp [rT, TR.bad]⟩
 | succ d ih =>
   intro l
   have hB := rhS_bounds l
   simp only [rT]
   generalize rhS l = h at hB ⊢
   obtain ⟨c1, c2, c3, c4, c5, c6, c7⟩ := hB
   unfold rTH
   by_cases k1 : h.code ≠ 0
   ·rw [if_pos k1]
    exact ⟨fun h' => absurd h' k1, fun _ => ⟨by simp only [TR.bad]; omega, rfl, rfl, by simp only [TR.bad]; omega⟩⟩
   rw [if_neg k1]
   have c1' := c1 (Decidable.not_not.1 k1)
   by_cases k2 : l.length < h.size + h.len
   ·rw [if_pos k2]
    exact ⟨fun h' => by simp [TR.bad] at h', fun _ => by simp [TR.bad]⟩
   rw [if_neg k2]
   by_cases k3 : h.k = false
   ·rw [if_pos k3]
    exact ⟨fun _ => ⟨_, _, rfl, by omega, by omega⟩, fun h' => by simp at h'⟩
   rw [if_neg k3]
   have hK := kidsT_facts ih _ ((l.drop h.size).take h.len) (Nat.le_refl _)
   have hl : ((l.drop h.size).take h.len).length = h.len := by rw [List.length_take, List.length_drop]; omega
   rw [hl] at hK
   by_cases k4 : (kidsT (rT d) ((l.drop h.size).take h.len)).code ≠ 0
   ·rw [if_pos k4]
    have := hK.2 k4
    exact ⟨fun h' => absurd h' k4, fun _ => ⟨by simp only [TR.bad]; omega, rfl, rfl, this.2⟩⟩
   ·rw [if_neg k4]
    exact ⟨fun _ => ⟨_, _, rfl, by omega, by omega⟩, fun h' => by simp at h'⟩
def ndZ : AV := .agg [iv 0, iv 0, bv false, nilA, nilA]
def trN (t : Tr) : AV := .agg ((t.cells true).map AV.d)
def rtA (r : TR) : AV := match r with
 | ⟨t :: _, sz, 0, _⟩ => .tup [trN t, iv sz, erA 0 0]
 | r => .tup [ndZ, iv 0, erA r.code r.off]
theorem rtA_ok (t : Tr) (sz : Nat) : rtA ⟨[t], sz, 0, 0⟩ = .tup [trN t, iv sz, erA 0 0] := rfl
theorem rtA_bad {r : TR} (h : r.code ≠ 0) : rtA r = .tup [ndZ, iv 0, erA r.code r.off] := by
 obtain ⟨l, s, c, o⟩ := r
 cases c with
 | zero => exact absurd rfl h
 | succ c => cases l <;> rfl
end Go.Proofs.YtblabcopgeobgaaGreatDoor

namespace Go.Proofs.YtblabcopgeobgaaGreatDoor
open Go.RowKit
set_option maxRecDepth 100000
set_option maxHeartbeats 8000000
abbrev trC : Tr → List D := Tr.cells true
theorem rRead_kids (l : List UInt8) (hb : l.length ≤ 1000000000) (d cc nn ll sz off : Nat) (hd : d < 1000) (hsz : 2 ≤ sz) (h3 : sz + ll ≤ l.length)
 (hN : ACalls Tryz.prog 121 [.d (bytesD false l)] (fun r => r = .tup [.agg [iv cc, iv nn, bv true, iv ll, iv sz], .d (bytesD false ((l.drop sz).take ll)), .d (bytesD false (l.drop (sz + ll))), erA 0 0]))
 (ih : ∀ m : List UInt8, m.length ≤ 1000000000 → ACalls Tryz.prog 93 [.d (bytesD false m), iv d] (fun r => r = rtA (rT d m))) :
 ACalls Tryz.prog 93 [.d (bytesD false l), iv (d + 1 : Nat)] (fun r => r = rtA (rTH (rT d) l ⟨cc, nn, true, ll, sz, 0, off⟩)) := by
 have hRd := rT_rd d
 have hF : (kidsT (rT d) ((l.drop sz).take ll)).code ≠ 0 → rTH (rT d) l ⟨cc, nn, true, ll, sz, 0, off⟩ = .bad (kidsT (rT d) ((l.drop sz).take ll)).code (sz + (kidsT (rT d) ((l.drop sz).take ll)).off) := fun h => by
  unfold rTH
  rw [if_neg (fun x => x rfl), if_neg (show ¬ l.length < sz + ll by omega), if_neg (fun x => by cases x), if_pos h]
 have hO : (kidsT (rT d) ((l.drop sz).take ll)).code = 0 → rTH (rT d) l ⟨cc, nn, true, ll, sz, 0, off⟩ = ⟨[.mk cc nn true [] (kidsT (rT d) ((l.drop sz).take ll)).l], sz + ll, 0, 0⟩ := fun h => by
  unfold rTH
  rw [if_neg (fun x => x rfl), if_neg (show ¬ l.length < sz + ll by omega), if_neg (fun x => by cases x), if_neg (fun x => x h)]
 have hcl : ((l.drop sz).take ll).length = ll := by rw [List.length_take, List.length_drop]; omega
 generalize (l.drop sz).take ll = m at hF hO hN hcl
 generalize hK : kidsT (rT d) m = K0 at hF hO
 refine acalls_vc 97 _ tabOk mixed Tryz.func93 rfl (by kernel_rfl) rfl rfl rfl rfl fun W0 fp0 z0 => ?_
 (repeat' ((conv => whnf); first | refine NBr.no ?_ | refine NCall.eq (hN) (by first | rfl | (simp only [AV.gives, AV.give, un_bytesD]; first | done | rfl)) ?_)); (all_goals (conv => whnf))
 refine NLoop.goA [.b 11 4 1000 5 80] (fun z : Nat × List Tr => z.1 ≤ ll ∧ z.2.length ≤ z.1 ∧ (kidsT (rT d) (m.drop z.1)).code = K0.code ∧ (K0.code ≠ 0 → z.1 + (kidsT (rT d) (m.drop z.1)).off = K0.off) ∧ (K0.code = 0 → K0.l = z.2 ++ (kidsT (rT d) (m.drop z.1)).l)) (fun z => ll - z.1)
  (fun z => ⟨[(1, iv (d + 1 : Nat)), (4, .ptr 4 0), (6, .ptr 6 0), (7, .ptr 7 0), (8, .d (bytesD false m)), (11, .ptr 11 0), (12, iv z.1)], [(4, [iv 0, iv 0, bv false, nilA, nilA]), (6, [iv 0, iv 0]), (7, [iv cc, iv nn, bv true, iv ll, iv sz]), (11, [iv cc, iv nn, bv true, nilA, ownT 1000 5 80 trC z.2])], [(1000, (z.2.length, 5, 80))]⟩) (0, []) ⟨by simp, by simp, by rw [List.drop_zero, hK], fun _ => by rw [List.drop_zero, hK, Nat.zero_add], fun _ => by rw [List.drop_zero, hK]; rfl⟩ (by ((repeat' (first | exact trivial | exact leW_refl _ | refine And.intro ?_ ?_ | exact rfl)))) ?_
 ·rintro ⟨p, acc⟩ ⟨hp, hacc, e1, e2, e3⟩
  simp only [] at hp hacc e1 e2 e3
  have hdl : (m.drop p).length = ll - p := by rw [List.length_drop, hcl]
  by_cases h5 : p < ll
  ·have hne : (m.drop p).length ≠ 0 := by omega
   have hrec := ih (m.drop p) (by omega)
   by_cases h6 : (rT d (m.drop p)).code ≠ 0
   ·rw [kidsT_bad hne h6] at e1 e2
    have h7 : K0.code ≠ 0 := by rw [← e1]; exact h6
    have e1' : (rT d (m.drop p)).code = K0.code := e1
    have e2' : p + (rT d (m.drop p)).off = K0.off := e2 h7
    rw [rtA_bad h6] at hrec
    have hof := ((hRd (m.drop p)).2 h6).1
    generalize rT d (m.drop p) = R at hrec e1' e2' h6 hof
    have hne0 : ¬ ((R.code : Nat) : Int) = 0 := by omega
    have hrec' : ACalls Tryz.prog 93 [.d (bytesD false (m.drop p)), iv d] (fun r => r = .tup [.agg [iv 0, iv 0, bv false, nilA, nilA], iv 0, .agg [iv R.code, iv R.off]]) := hrec
    rw [hF h7, rtA_bad (show (TR.bad K0.code (sz + K0.off)).code ≠ 0 from h7)]
    (repeat' ((conv => whnf); first | refine NCall.eq (hrec') (by first | rfl | (simp only [AV.gives, AV.give, D.un, uns_bytesL]; first | done | rfl)) ?_ | refine NInt.as (((d : Nat) : Int) ) ( (by rw [IntWalk.i64_in _ (by omega)]; omega)) ?_ | refine NSl.from (p) ?_ | (with_reducible refine NInt.i64 ?_) | refine NFact.go ⟨by decide +kernel, by kernel_rfl⟩ ?_ | (refine NBr.dec (fun hc hcP => ?_) (fun hc hcP => ?_) <;> try (exfalso; omega)) | (refine NBr.bne (fun hc hcP => ?_) (fun hc hcP => ?_) <;> try (exfalso; omega)))); (all_goals (conv => whnf))
    all_goals (refine NEnd.eq ?_; (repeat' (first | exact trivial | exact leW_refl _ | refine And.intro ?_ ?_ | exact rfl)); (all_goals (conv => whnf)))
    all_goals simp only [TR.bad]
    all_goals omega
   ·obtain ⟨t, q, r1, r2, r3⟩ := (hRd (m.drop p)).1 (Decidable.not_not.1 h6)
    obtain ⟨c, n, k, b', ks⟩ := t
    rw [r1, rtA_ok] at hrec
    have hrec' : ACalls Tryz.prog 93 [.d (bytesD false (m.drop p)), iv d] (fun r => r = .tup [.agg [iv c, iv n, bv k, .d (bytesD true b'), .d (.sl true ks.length 5 (Tr.cellss true ks))], iv q, erA 0 0]) := hrec
    have hst := kidsT_step hRd hne r1
    rw [List.drop_drop] at hst
    have e1' : (kidsT (rT d) (m.drop (p + q))).code = K0.code := by
     rw [← e1, hst]
     by_cases h9 : (kidsT (rT d) (m.drop (p + q))).code = 0
     ·rw [joinT_ok h9]; exact h9
     ·rw [joinT_bad h9]; rfl
    have e2' : K0.code ≠ 0 → p + q + (kidsT (rT d) (m.drop (p + q))).off = K0.off := fun h => by
     rw [← e2 h, hst, joinT_bad (by rw [e1']; exact h)]; simp only [TR.bad]; omega
    have e3' : K0.code = 0 → K0.l = (acc ++ [Tr.mk c n k b' ks]) ++ (kidsT (rT d) (m.drop (p + q))).l := fun h => by
     rw [e3 h, hst, joinT_ok (by rw [e1']; exact h)]; simp
    clear hst r1 hrec e1 e2 e3
    rw [hdl] at r3
    (repeat' ((conv => whnf); first | refine NBr.no ?_ | refine NCall.eq (hrec') (by first | rfl | (simp only [AV.gives, AV.give, D.un, uns_bytesL]; first | done | rfl)) ?_ | refine NInt.as (((d : Nat) : Int) ) ( (by rw [IntWalk.i64_in _ (by omega)]; omega)) ?_ | refine NSl.from (p) ?_ | refine NApp.one trC (Tr.mk c n k b' ks) ?_ | (with_reducible refine NInt.i64 ?_) | (refine NBr.dec (fun hc hcP => ?_) (fun hc hcP => ?_) <;> try (exfalso; omega)))); (all_goals (conv => whnf))
    refine ⟨(p + q, acc ++ [Tr.mk c n k b' ks]), ⟨by simp only []; omega, by simp only [List.length_append, List.length_cons, List.length_nil] at *; omega, e1', e2', e3'⟩, by simp only []; omega, ?_⟩
    ((repeat' (first | exact trivial | exact leW_refl _ | refine And.intro ?_ ?_ | exact rfl)))
  ·have h50 : (m.drop p).length = 0 := by omega
   rw [kidsT_end h50] at e1 e3
   have h7 : K0.code = 0 := e1.symm
   have h8 := e3 h7
   rw [hO h7, h8, List.append_nil, rtA_ok]
   (repeat' ((conv => whnf); first | (with_reducible refine NInt.i64 ?_) | refine NFact.go ⟨by decide +kernel, by kernel_rfl⟩ ?_ | (refine NBr.dec (fun hc hcP => ?_) (fun hc hcP => ?_) <;> try (exfalso; omega)))); (all_goals (conv => whnf))
   all_goals (refine NEnd.eq ?_; (repeat' (first | exact trivial | exact leW_refl _ | refine And.intro ?_ ?_ | exact rfl)); (all_goals (conv => whnf)))
   all_goals exact (Tr.cellss_eq true acc).symm
theorem rRead_any : ∀ (d : Nat) (l : List UInt8), d ≤ 1000 → l.length ≤ 1000000000 → ACalls Tryz.prog 93 [.d (bytesD false l), iv d] (fun r => r = rtA (rT d l)) := by
 intro d
 induction d with
 | zero =>
   intro l hd hb
   refine acalls_vc 97 _ tabOk mixed Tryz.func93 rfl (by kernel_rfl) rfl rfl rfl rfl fun W0 fp0 z0 => ?_
   (repeat' ((conv => whnf); refine NBr.yes ?_)); (all_goals (conv => whnf))
   all_goals (refine NEnd.eq ?_; (repeat' (first | exact leW_refl _ | refine And.intro ?_ ?_ | exact rfl)))
 | succ d ih =>
   intro l hd hb
   have hN := rNext_any l hb
   have hB := rhS_bounds l
   rw [rT]
   unfold rNextA at hN
   generalize rhS l = h at hN hB ⊢
   obtain ⟨c1, c2, c3, c4, c5, c6, c7⟩ := hB
   obtain ⟨cc, nn, kk, ll, sz, cd, of⟩ := h
   by_cases k1 : cd = 0
   ·subst k1
    have c1' := c1 rfl
    rw [if_neg (fun x => x rfl)] at hN
    by_cases k2 : l.length < sz + ll
    ·rw [if_pos k2] at hN
     rw [rTH, if_neg (fun x => x rfl), if_pos k2]
     refine acalls_vc 97 _ tabOk mixed Tryz.func93 rfl (by kernel_rfl) rfl rfl rfl rfl fun W0 fp0 z0 => ?_
     (repeat' ((conv => whnf); first | refine NBr.yes ?_ | refine NBr.no ?_ | refine NCall.eq (hN) (by first | rfl | (simp only [AV.gives, AV.give, un_bytesD]; first | done | rfl)) ?_ | refine NFact.go ⟨by decide +kernel, by kernel_rfl⟩ ?_)); (all_goals (conv => whnf))
     all_goals (refine NEnd.eq ?_; (repeat' (first | exact leW_refl _ | refine And.intro ?_ ?_ | exact rfl)))
    ·rw [if_neg k2] at hN
     simp only [] at c1'
     cases kk with
     | false =>
       have e : rTH (rT d) l ⟨cc, nn, false, ll, sz, 0, of⟩ = ⟨[.mk cc nn false ((l.drop sz).take ll) []], sz + ll, 0, 0⟩ := by
        unfold rTH
        rw [if_neg (fun x => x rfl), if_neg k2, if_pos rfl]
       have hlm : ((l.drop sz).take ll).length ≤ 1000000000 := by rw [List.length_take]; omega
       have c4' : ll ≤ 2147483647 := c4
       rw [e, rtA_ok]
       have hN' : ACalls Tryz.prog 121 [.d (bytesD false l)] (fun r => r = .tup [.agg [iv cc, iv nn, bv false, iv ll, iv sz], .d (bytesD false ((l.drop sz).take ll)), .d (bytesD false (l.drop (sz + ll))), erA 0 0]) := hN
       generalize (l.drop sz).take ll = m at hN' hlm ⊢
       refine acalls_vc 97 _ tabOk mixed Tryz.func93 rfl (by kernel_rfl) rfl rfl rfl rfl fun W0 fp0 z0 => ?_
       (repeat' ((conv => whnf); first | refine NBr.yes ?_ | refine NBr.no ?_ | refine NCall.eq (hN') (by first | rfl | (simp only [AV.gives, AV.give, un_bytesD]; first | done | rfl)) ?_ | refine NApp.lit ([]) ?_ | (with_reducible refine NInt.i64 ?_) | refine NFact.go ⟨by decide +kernel, by kernel_rfl⟩ ?_)); (all_goals (conv => whnf))
       all_goals (refine NEnd.eq ?_; (repeat' (first | exact trivial | exact leW_refl _ | refine And.intro ?_ ?_ | exact rfl)))
     | true => exact rRead_kids l hb d cc nn ll sz of (by omega) c1'.1 (by omega) hN (fun m hm => ih m (by omega) hm)
   ·rw [if_pos k1] at hN
    have k1' : ¬ ((cd : Nat) : Int) = 0 := by omega
    rw [rTH, if_pos k1, rtA_bad (show (TR.bad cd of).code ≠ 0 from k1)]
    have hN' : ACalls Tryz.prog 121 [.d (bytesD false l)] (fun r => r = .tup [hdA (.bad 0 0), nilA, nilA, .agg [iv cd, iv of]]) := hN
    refine acalls_vc 97 _ tabOk mixed Tryz.func93 rfl (by kernel_rfl) rfl rfl rfl rfl fun W0 fp0 z0 => ?_
    (repeat' ((conv => whnf); first | refine NBr.no ?_ | refine NCall.eq (hN') (by first | rfl | (simp only [AV.gives, AV.give, un_bytesD]; first | done | rfl)) ?_ | refine NFact.go ⟨by decide +kernel, by kernel_rfl⟩ ?_ | (refine NBr.bne (fun hc hcP => ?_) (fun hc hcP => ?_) <;> try (exfalso; omega)))); (all_goals (conv => whnf))
    all_goals (refine NEnd.eq ?_; (repeat' (first | exact leW_refl _ | refine And.intro ?_ ?_ | exact rfl)))
end Go.Proofs.YtblabcopgeobgaaGreatDoor

namespace Go.Proofs.YtblabcopgeobgaaGreatDoor
open Go.RowKit
set_option maxRecDepth 100000
set_option maxHeartbeats 8000000
def wholeT (n : Nat) : TR → TR
 | ⟨t :: _, sz, 0, _⟩ => if sz < n then .bad 2 sz else ⟨[t], sz, 0, 0⟩
 | r => .bad r.code r.off
theorem wholeT_long {n sz : Nat} {t : Tr} (h : sz < n) : wholeT n ⟨[t], sz, 0, 0⟩ = .bad 2 sz := if_pos h
theorem wholeT_ok {n sz : Nat} {t : Tr} (h : ¬ sz < n) : wholeT n ⟨[t], sz, 0, 0⟩ = ⟨[t], sz, 0, 0⟩ := if_neg h
theorem wholeT_bad {n c o s : Nat} : wholeT n ⟨[], s, c, o⟩ = .bad c o := by cases c <;> rfl
def withinT (d : Nat) (b : List UInt8) : TR := wholeT b.length (rT d b)
theorem withinT_facts (d : Nat) (b : List UInt8) : ((withinT d b).code = 0 → ∃ t, withinT d b = ⟨[t], b.length, 0, 0⟩ ∧ rT d b = ⟨[t], b.length, 0, 0⟩) ∧ ((withinT d b).code ≠ 0 → (withinT d b).l = [] ∧ (withinT d b).size = 0 ∧ (withinT d b).off ≤ b.length) := by
 have hF := rT_rd d b
 unfold withinT
 generalize rT d b = r at hF ⊢
 by_cases h : r.code = 0
 ·obtain ⟨t, sz, rfl, h1, h2⟩ := hF.1 h
  by_cases h3 : sz < b.length
  ·rw [wholeT_long h3]; exact ⟨fun h => by simp [TR.bad] at h, fun _ => ⟨rfl, rfl, h2⟩⟩
  ·have : sz = b.length := by omega
   subst this
   rw [wholeT_ok h3]; exact ⟨fun _ => ⟨t, rfl, rfl⟩, fun h => absurd rfl h⟩
 ·obtain ⟨l, s, c, o⟩ := r
  obtain ⟨h1, h2, h3, h4⟩ := hF.2 h
  have h2 : l = [] := h2
  subst h2
  have h' : ¬ c = 0 := h
  rw [wholeT_bad]
  exact ⟨fun h => absurd h h', fun _ => ⟨rfl, rfl, h1⟩⟩
def Tr.zero : Tr := .mk 0 0 false [] []
def TR.tree (r : TR) : Tr := r.l.headD .zero
def wtA (r : TR) : AV := .tup [trN r.tree, erA r.code r.off]
theorem within_any (d : Nat) (b : List UInt8) (hd : d ≤ 1000) (hb : b.length ≤ 1000000000) : ACalls Tryz.prog 67 [.d (bytesD false b), iv d] (fun r => r = wtA (withinT d b)) := by
 have hR := rRead_any d b hd hb
 have hF := rT_rd d b
 unfold withinT
 generalize rT d b = r at hR hF ⊢
 by_cases h : r.code = 0
 ·obtain ⟨t, sz, rfl, h1, h2⟩ := hF.1 h
  obtain ⟨c, n, k, b', ks⟩ := t
  have hR' : ACalls Tryz.prog 93 [.d (bytesD false b), iv d] (fun r => r = .tup [.agg [iv c, iv n, bv k, .d (bytesD true b'), .d (.sl true ks.length 5 (Tr.cellss true ks))], iv sz, erA 0 0]) := hR
  by_cases h3 : sz < b.length
  ·rw [wholeT_long h3]
   refine acalls_vc 30 _ tabOk mixed Tryz.func67 rfl (by kernel_rfl) rfl rfl rfl rfl fun W0 fp0 z0 => ?_
   (repeat' ((conv => whnf); first | refine NBr.yes ?_ | refine NCall.eq (hR') (by first | rfl | (simp only [AV.gives, AV.give, D.un, un_bytesD]; first | done | rfl)) ?_ | (refine NBr.dec (fun hc hcP => ?_) (fun hc hcP => ?_) <;> try (exfalso; omega)))); (all_goals (conv => whnf))
   all_goals (refine NEnd.eq ?_; (repeat' (first | exact trivial | exact leW_refl _ | refine And.intro ?_ ?_ | exact rfl)))
  ·rw [wholeT_ok h3]
   refine acalls_vc 30 _ tabOk mixed Tryz.func67 rfl (by kernel_rfl) rfl rfl rfl rfl fun W0 fp0 z0 => ?_
   (repeat' ((conv => whnf); first | refine NBr.yes ?_ | refine NCall.eq (hR') (by first | rfl | (simp only [AV.gives, AV.give, D.un, un_bytesD]; first | done | rfl)) ?_ | refine NFact.go ⟨by decide +kernel, by kernel_rfl⟩ ?_ | (refine NBr.dec (fun hc hcP => ?_) (fun hc hcP => ?_) <;> try (exfalso; omega)))); (all_goals (conv => whnf))
   all_goals (refine NEnd.eq ?_; (repeat' (first | exact leW_refl _ | refine And.intro ?_ ?_ | exact rfl)))
 ·obtain ⟨l, s, c, o⟩ := r
  obtain ⟨h1, h2, h3, h4⟩ := hF.2 h
  have h2 : l = [] := h2
  subst h2
  have h' : ¬ c = 0 := h
  have hR' : ACalls Tryz.prog 93 [.d (bytesD false b), iv d] (fun r => r = .tup [ndZ, iv 0, erA c o]) := by rw [rtA_bad h] at hR; exact hR
  rw [wholeT_bad]
  refine acalls_vc 30 _ tabOk mixed Tryz.func67 rfl (by kernel_rfl) rfl rfl rfl rfl fun W0 fp0 z0 => ?_
  (repeat' ((conv => whnf); first | refine NBr.no ?_ | refine NCall.eq (hR') (by first | rfl | (simp only [AV.gives, AV.give, D.un, un_bytesD]; first | done | rfl)) ?_ | refine NFact.go ⟨by decide +kernel, by kernel_rfl⟩ ?_ | (refine NBr.dec (fun hc hcP => ?_) (fun hc hcP => ?_) <;> try (exfalso; omega)))); (all_goals (conv => whnf))
  all_goals (refine NEnd.eq ?_; (repeat' (first | exact trivial | exact leW_refl _ | refine And.intro ?_ ?_ | exact rfl)))
theorem trN_eq {t : Tr} {c n : Nat} {k : Bool} {b : List UInt8} {ks : List Tr} (h : t = .mk c n k b ks) : trN t = .agg [iv c, iv n, bv k, .d (bytesD true b), .d (.sl true ks.length 5 (Tr.cellss true ks))] := by subst h; rfl
theorem rParse_any (b : List UInt8) (hb : b.length ≤ 1000000000) : ACalls Tryz.prog 83 [.d (bytesD false b)] (fun r => r = wtA (withinT 16 b)) := by
 have hR := within_any 16 b (by omega) hb
 unfold wtA at hR ⊢
 generalize hw : withinT 16 b = r at hR ⊢
 generalize ht : r.tree = t at hR ⊢
 obtain ⟨c, n, k, b', ks⟩ := t
 rw [trN_eq rfl] at hR ⊢
 refine acalls_vc 8 _ tabOk mixed Tryz.func83 rfl (by kernel_rfl) rfl rfl rfl rfl fun W0 fp0 z0 => ?_
 (repeat' ((conv => whnf); refine NCall.eq (hR) (by first | rfl | (simp only [AV.gives, AV.give, D.un, un_bytesD]; first | done | rfl)) ?_)); (all_goals (conv => whnf))
 all_goals (refine NEnd.eq ?_; (repeat' (first | exact leW_refl _ | refine And.intro ?_ ?_ | exact rfl)))
def deepT (b : List UInt8) : Tr := (withinT 60 b).tree
theorem deep_any (b : List UInt8) (hb : b.length ≤ 1000000000) : ACalls Tryz.prog 42 [.d (bytesD false b)] (fun r => r = .tup [trN (deepT b), bv ((withinT 60 b).code == 0)]) := by
 have hR := within_any 60 b (by omega) hb
 unfold wtA at hR
 unfold deepT
 generalize hw : withinT 60 b = r at hR ⊢
 generalize ht : r.tree = t at hR ⊢
 obtain ⟨c, n, k, b', ks⟩ := t
 rw [trN_eq rfl] at hR ⊢
 refine acalls_vc 15 _ tabOk mixed Tryz.func42 rfl (by kernel_rfl) rfl rfl rfl rfl fun W0 fp0 z0 => ?_
 (repeat' ((conv => whnf); first | refine NCall.eq (hR) (by first | rfl | (simp only [AV.gives, AV.give, D.un, un_bytesD]; first | done | rfl)) ?_ | refine NFact.go ⟨by decide +kernel, by kernel_rfl⟩ ?_)); (all_goals (conv => whnf))
 all_goals (refine NEnd.eq ?_; (repeat' (first | exact trivial | exact leW_refl _ | refine And.intro ?_ ?_ | exact rfl)); (all_goals (conv => whnf)))
 all_goals exact beq_cast r.code 0
def openB (b : List UInt8) : Bool := (withinT 16 b).code == 0
theorem rOpen_any (b : List UInt8) (hb : b.length ≤ 1000000000) : ACalls Tryz.prog 58 [.d (bytesD false b)] (fun r => r = bv (openB b)) := by
 have hR := rParse_any b hb
 unfold wtA at hR
 unfold openB
 generalize hw : withinT 16 b = r at hR ⊢
 generalize ht : r.tree = t at hR ⊢
 obtain ⟨c, n, k, b', ks⟩ := t
 rw [trN_eq rfl] at hR
 refine acalls_vc 13 _ tabOk mixed Tryz.func58 rfl (by kernel_rfl) rfl rfl rfl rfl fun W0 fp0 z0 => ?_
 (repeat' ((conv => whnf); refine NCall.eq (hR) (by first | rfl | (simp only [AV.gives, AV.give, un_bytesD]; first | done | rfl)) ?_)); (all_goals (conv => whnf))
 all_goals (refine NEnd.eq ?_; (repeat' (first | refine And.intro ?_ ?_ | exact rfl)); (all_goals (conv => whnf)))
 all_goals exact beq_cast r.code 0
mutual
def Tr.enc : Tr → List UInt8
 | .mk c n k b ks => putS (UInt8.ofNat (idN c k n)) (b ++ Tr.encs ks)
def Tr.encs : List Tr → List UInt8
 | [] => []
 | s :: r => s.enc ++ Tr.encs r
end
mutual
def Tr.ok : Tr → Prop
 | .mk c n _ _ ks => c ≤ 3 ∧ n ≤ 30 ∧ Tr.oks ks
def Tr.oks : List Tr → Prop
 | [] => True
 | s :: r => s.ok ∧ Tr.oks r
end
theorem Tr.oks_mem {l : List Tr} (h : Tr.oks l) : ∀ s ∈ l, s.ok := by
 induction l with
 | nil => intro s hs; simp at hs
 | cons x r ih =>
   rw [Tr.oks] at h
   intro s hs
   rcases List.mem_cons.1 hs with rfl | hs
   ·exact h.1
   ·exact ih h.2 s hs
theorem Tr.encs_eq (l : List Tr) : Tr.encs l = l.flatMap Tr.enc := by
 induction l with
 | nil => rw [Tr.encs]; rfl
 | cons s r ih => rw [Tr.encs, ih, List.flatMap_cons]
theorem Tr.encs_snoc {l : List Tr} {i : Nat} {t : Tr} (h : l[i]? = some t) : Tr.encs (l.take (i + 1)) = Tr.encs (l.take i) ++ t.enc := by
 obtain ⟨hlt, he⟩ := List.getElem?_eq_some_iff.1 h
 rw [Tr.encs_eq, Tr.encs_eq, List.take_succ_eq_append_getElem hlt, he, List.flatMap_append]; simp
theorem Tr.encs_le (l : List Tr) (i : Nat) : (Tr.encs (l.take i)).length ≤ (Tr.encs l).length := by
 rw [Tr.encs_eq, Tr.encs_eq]
 conv => rhs; rw [← List.take_append_drop i l, List.flatMap_append, List.length_append]
 omega
theorem putS_len (x : UInt8) (c : List UInt8) : (putS x c).length = 1 + (lenS c.length).length + c.length := by
 unfold putS; simp; omega
theorem Tr.enc_pos (t : Tr) : 1 ≤ t.enc.length := by cases t; rw [Tr.enc, putS_len]; omega
theorem Tr.encs_cnt (l : List Tr) : l.length ≤ (Tr.encs l).length := by
 induction l with
 | nil => simp
 | cons s r ih => rw [Tr.encs, List.length_cons, List.length_append]; have := s.enc_pos; omega
theorem NIdx.trs {tg : Bool} {ks : List Tr} {j : Int} {A : List D → Prop} {i : Nat} {t : Tr} (hb : ks[i]? = some t) (k : A (t.cells tg)) (hj : j = (i : Int) := by first | rfl | omega) : NIdx (Tr.cellss tg ks) ks.length 5 j A := by
 rw [Tr.cellss_eq]
 exact NIdx.tab (Tr.cells_len tg) hb k hj
theorem rIdent_any (c n : Nat) (k : Bool) (hc1 : c ≤ 3) (hn1 : n ≤ 30) : ACalls Tryz.prog 117 [iv c, bv k, iv n] (fun r => r = .tup [cv (UInt8.ofNat (idN c k n)).toNat, iv 0]) := by
 cases k with
 | true =>
   refine acalls_vc 32 _ tabOk mixed Tryz.func117 rfl (by kernel_rfl) rfl rfl rfl rfl fun W0 fp0 z0 => ?_
   (repeat' ((conv => whnf); first | refine NBr.yes ?_ | refine NBr.no ?_ | (with_reducible refine NInt.i64 ?_) | (with_reducible refine NInt.u8 ?_) | (refine NBr.dec (fun hc hcP => ?_) (fun hc hcP => ?_) <;> try (exfalso; omega)))); (all_goals (conv => whnf))
   all_goals (refine NEnd.eq ?_; (repeat' (first | exact trivial | exact leW_refl _ | refine And.intro ?_ ?_ | exact rfl)); (all_goals (conv => whnf)))
   rw [ofNat_toNat (idN_lt _ hc1 hn1)]; unfold idN; simp; omega
 | false =>
   refine acalls_vc 32 _ tabOk mixed Tryz.func117 rfl (by kernel_rfl) rfl rfl rfl rfl fun W0 fp0 z0 => ?_
   (repeat' ((conv => whnf); first | refine NBr.no ?_ | (with_reducible refine NInt.i64 ?_) | (with_reducible refine NInt.u8 ?_) | (refine NBr.dec (fun hc hcP => ?_) (fun hc hcP => ?_) <;> try (exfalso; omega)))); (all_goals (conv => whnf))
   all_goals (refine NEnd.eq ?_; (repeat' (first | exact trivial | exact leW_refl _ | refine And.intro ?_ ?_ | exact rfl)); (all_goals (conv => whnf)))
   rw [ofNat_toNat (idN_lt _ hc1 hn1)]; unfold idN; simp; omega
def trF (t : Tr) : AV := .agg ((t.cells false).map AV.d)
theorem trF_eq (c n : Nat) (k : Bool) (b : List UInt8) (ks : List Tr) : trF (.mk c n k b ks) = .agg [iv c, iv n, bv k, .d (bytesD false b), .d (.sl false ks.length 5 (Tr.cellss false ks))] := rfl
theorem rBytes_any : ∀ t : Tr, t.ok → t.enc.length ≤ 900000000 → ACalls Tryz.prog 86 [trF t] (fun r => r = ownB 0 5 t.enc)
 | .mk c n k b ks => fun hok hlen => by
   rw [Tr.ok] at hok
   obtain ⟨hc1, hn1, hks⟩ := hok
   rw [Tr.enc, putS_len, List.length_append] at hlen
   have ih : ∀ s ∈ ks, ACalls Tryz.prog 86 [trF s] (fun r => r = ownB 0 5 s.enc) := fun s hs => by
    refine rBytes_any s (Tr.oks_mem hks s hs) ?_
    obtain ⟨i, hi, rfl⟩ := List.getElem_of_mem hs
    have h1 := Tr.encs_snoc (List.getElem?_eq_getElem hi)
    have h2 := Tr.encs_le ks (i + 1)
    rw [h1, List.length_append] at h2
    omega
   have hI := rIdent_any c n k hc1 hn1
   have hP := rPut_any (UInt8.ofNat (idN c k n)) (b ++ Tr.encs ks) (by rw [List.length_append]; omega)
   have hcnt := Tr.encs_cnt ks
   rw [Tr.enc, trF_eq]
   refine acalls_vc 39 _ tabOk mixed Tryz.func86 rfl (by kernel_rfl) rfl rfl rfl rfl fun W0 fp0 z0 => ?_
   (repeat' ((conv => whnf); first | refine NCall.eq (hI) (by rfl) ?_ | refine NApp.lit ([]) ?_)); (all_goals (conv => whnf))
   refine NLoop.go (fun i : Nat => i ≤ ks.length) (fun i => ks.length - i) (fun i => ⟨[(1, .ptr 1 0), (2, nilA), (3, cv (UInt8.ofNat (idN c k n)).toNat), (5, ownB 17 5 (b ++ Tr.encs (ks.take i))), (6, iv i)], [(1, [iv c, iv n, bv k, .d (bytesD false b), .d (.sl false ks.length 5 (Tr.cellss false ks))])], [(17, ((b ++ Tr.encs (ks.take i)).length, 1, 5))]⟩) 0 (by omega) ?_ ?_
   ·simp only [List.take_zero, Tr.encs, List.append_nil]
    ((repeat' (first | exact trivial | exact leW_refl _ | refine And.intro ?_ ?_ | exact rfl)))
   ·intro i hi
    by_cases hik : i < ks.length
    ·obtain ⟨t, ht⟩ : ∃ t, ks[i]? = some t := ⟨_, List.getElem?_eq_getElem hik⟩
     have hT := ih t (List.mem_of_getElem? ht)
     have h1 := Tr.encs_snoc ht
     have h2 := Tr.encs_le ks (i + 1)
     rw [h1, List.length_append] at h2
     obtain ⟨tc, tn, tk', tb, tks⟩ := t
     rw [trF_eq] at hT
     have hcell : (Tr.mk tc tn tk' tb tks).cells false = [.v (.int .i64 tc), .v (.int .i64 tn), .v (.bool tk'), bytesD false tb, .sl false tks.length 5 (Tr.cellss false tks)] := rfl
     (repeat' ((conv => whnf); first | refine NCall.eq (hT) (by first | rfl | (simp only [AV.gives, AV.give, D.un, un_bytesD, Tr.cellss_un]; first | done | rfl)) ?_ | (with_reducible refine NIdx.trs ht ?_) | (rw [hcell]) | (with_reducible refine NInt.i64 ?_) | (with_reducible refine NApp.bytes ?_) | (refine NBr.dec (fun hc hcP => ?_) (fun hc hcP => ?_) <;> try (exfalso; omega)))); (all_goals (conv => whnf))
     refine ⟨i + 1, by omega, by omega, ?_⟩
     rw [h1, ← List.append_assoc]
     ((repeat' (first | exact trivial | exact leW_refl _ | refine And.intro ?_ ?_ | exact rfl)))
    ·obtain rfl : i = ks.length := by omega
     rw [List.take_length]
     (repeat' ((conv => whnf); first | refine NCall.eq (hP) (by first | rfl | (simp only [AV.gives, AV.give, D.un, uns_bytesL]; first | done | rfl)) ?_ | (refine NBr.dec (fun hc hcP => ?_) (fun hc hcP => ?_) <;> try (exfalso; omega)))); (all_goals (conv => whnf))
     all_goals (refine NEnd.eq ?_; (repeat' (first | refine And.intro ?_ ?_ | exact rfl)))
termination_by t => SizeOf.sizeOf t
decreasing_by
 have := List.sizeOf_lt_of_mem hs
 simp only [Tr.mk.sizeOf_spec]; omega
end Go.Proofs.YtblabcopgeobgaaGreatDoor

namespace Go.Proofs.YtblabcopgeobgaaGreatDoor
open Go.RowKit
set_option maxRecDepth 100000
set_option maxHeartbeats 8000000
theorem oidE_len (s : List UInt8) : (oidE s).length ≤ 5 * (s.length + 1) := by
 unfold oidE
 cases h : arcsS s with
 | none => simp
 | some a =>
   obtain ⟨k1, k2, k3⟩ := arcsS_some h
   have hal := arcsS_len0 h
   obtain ⟨x, y, r, rfl, x2, xy, y2⟩ := rightB_ne k1
   have hxy : 40 * x + y ≤ 4294967295 := by
    by_cases hx : x < 2
    ·have := xy hx; omega
    ·omega
   have h1 := b128_len0 true 4 (40 * x + y) (by omega)
   have h2 := flat128_len0 r (fun n hn => k2 n (by simp [hn]))
   simp only [List.length_cons] at hal
   simp only [encO, List.length_append]; omega
def objS (s : List UInt8) : List UInt8 := encS 0 6 false (oidE s)
theorem object_any (s : List UInt8) (hs : s.length ≤ 900000) : ACalls Tryz.prog 55 [sx s] (fun r => r = .d (bytesD true (objS s))) := by
 have hE := rOidEnc_any s hs
 have hl := oidE_len s
 have hP : ACalls Tryz.prog 43 [cv 6, .d (bytesD false (oidE s))] (fun r => r = ownB 0 5 (objS s)) := rPut_any 6 (oidE s) (by omega)
 refine acalls_vc 12 _ tabOk mixed Tryz.func55 rfl (by kernel_rfl) rfl rfl rfl rfl fun W0 fp0 z0 => ?_
 (repeat' ((conv => whnf); first | refine NCall.eq (hE) (by rfl) ?_ | refine NCall.eq (hP) (by first | rfl | (simp only [AV.gives, AV.give, D.un, un_bytesD]; first | done | rfl)) ?_)); (all_goals (conv => whnf))
 all_goals (refine NEnd.eq ?_; (repeat' (first | refine And.intro ?_ ?_ | exact rfl)))
def Tr.v : Tr → List UInt8
 | .mk _ _ _ b _ => b
def Tr.ks : Tr → List Tr
 | .mk _ _ _ _ ks => ks
def Tr.n : Tr → Nat
 | .mk _ n _ _ _ => n
theorem readObj_any (t : Tr) (hl : t.v.length ≤ 30000) : ACalls Tryz.prog 84 [trF t] (fun r => r = sx (odT t.v)) := by
 obtain ⟨c, n, k, b, ks⟩ := t
 have hD := rOidDec_any b hl
 unfold decA at hD
 rw [trF_eq]
 refine acalls_vc 12 _ tabOk mixed Tryz.func84 rfl (by kernel_rfl) rfl rfl rfl rfl fun W0 fp0 z0 => ?_
 (repeat' ((conv => whnf); refine NCall.eq (hD) (by first | rfl | (simp only [AV.gives, AV.give, un_bytesD]; first | done | rfl)) ?_)); (all_goals (conv => whnf))
 all_goals (refine NEnd.eq ?_; (repeat' (first | exact leW_refl _ | refine And.intro ?_ ?_ | exact rfl)))
def Tr.kid (t : Tr) (i : Nat) : Tr := t.ks.getD i .zero
theorem kid_any (t : Tr) (i : Nat) (hi : i ≤ 1000000) : ACalls Tryz.prog 85 [trF t, iv i] (fun r => r = trF (t.kid i)) := by
 obtain ⟨c, n, k, b, ks⟩ := t
 have g0 : decide ((i : Int) < 0) = false := decide_eq_false (by omega)
 rw [trF_eq]
 by_cases h : i < ks.length
 ·have g1 : decide ((i : Int) ≥ ks.length) = false := decide_eq_false (by omega)
  obtain ⟨x, hx⟩ : ∃ x, ks[i]? = some x := ⟨_, List.getElem?_eq_getElem h⟩
  have e : (Tr.mk c n k b ks).kid i = x := by show ks.getD i .zero = x; rw [List.getD_eq_getElem?_getD, hx]; rfl
  rw [e]
  obtain ⟨c', n', k', b', ks'⟩ := x
  rw [trF_eq]
  refine acalls_vc 20 _ tabOk mixed Tryz.func85 rfl (by kernel_rfl) rfl rfl rfl rfl fun W0 fp0 z0 => ?_
  (repeat' ((conv => whnf); first | refine NBr.no ?_ | refine NBr.neg (by assumption) ?_ | (refine NIdx.trs hx ?_))); (all_goals (conv => whnf))
  all_goals (refine NEnd.eq ?_; (repeat' (first | exact leW_refl _ | refine And.intro ?_ ?_ | exact rfl)))
 ·have g1 : decide ((i : Int) ≥ ks.length) = true := decide_eq_true (by omega)
  have e : (Tr.mk c n k b ks).kid i = .zero := by show ks.getD i .zero = _; rw [List.getD_eq_getElem?_getD, List.getElem?_eq_none (by omega)]; rfl
  rw [e, Tr.zero, trF_eq]
  refine acalls_vc 20 _ tabOk mixed Tryz.func85 rfl (by kernel_rfl) rfl rfl rfl rfl fun W0 fp0 z0 => ?_
  (repeat' ((conv => whnf); first | refine NBr.no ?_ | refine NBr.pos (by assumption) ?_)); (all_goals (conv => whnf))
  all_goals (refine NEnd.eq ?_; (repeat' (first | exact trivial | exact leW_refl _ | refine And.intro ?_ ?_ | exact rfl)))
end Go.Proofs.YtblabcopgeobgaaGreatDoor

namespace Go.Proofs.YtblabcopgeobgaaGreatDoor
open Go.RowKit
theorem beV_minN (n : Nat) : beV (minN n) = n := by
 induction n using Nat.strongRecOn with
 | _ n ih =>
   by_cases h : n < 256
   ·rw [minN_small h]; simp [beV]; omega
   ·rw [minN_more h, beV_snoc, ih (n / 256) (by omega), UInt8.toNat_ofNat']; omega
theorem rlS_len (n : Nat) (hn : n ≤ 2147483647) (rest : List UInt8) : rlS (lenS n ++ rest) = (n, (lenS n).length, 0, 0) := by
 have hL := minN_len 3 n (by omega)
 by_cases h : n < 128
 ·rw [lenS, if_pos h, minN_small (by omega), List.singleton_append, rlS_small (by rw [UInt8.toNat_ofNat']; omega), UInt8.toNat_ofNat', Nat.mod_eq_of_lt (by omega)]
  rfl
 ·obtain ⟨y, s, e, hy⟩ := minN_head 3 n (by omega) (by omega)
  have hb : beV (y :: s) = n := by rw [← e, beV_minN]
  rw [e] at hL
  rw [List.length_cons] at hL
  have hk : (UInt8.ofNat (128 + (y :: s).length)).toNat = s.length + 1 + 128 := by rw [UInt8.toNat_ofNat', List.length_cons]; omega
  have ht : (y :: (s ++ rest)).take (s.length + 1) = y :: s := by simp
  rw [lenS, if_neg h, e, List.cons_append, List.cons_append, rlS_ok hk (by omega) (by omega) (by simp) (by rw [ht, hb]; omega), ht, hb]
  rfl
theorem rlS_inv {l : List UInt8} (h : (rlS l).2.2.1 = 0) : l.take (rlS l).2.1 = lenS (rlS l).1 := by
 cases l with
 | nil => simp [rlS] at h
 | cons x r =>
   have hx := x.toNat_lt
   by_cases h1 : x.toNat < 128
   ·rw [rlS_small h1]
    show (x :: r).take 1 = lenS x.toNat
    rw [lenS, if_pos h1, minN_small (by omega), ofNat_self]; rfl
   by_cases h2 : x.toNat = 128 ∨ x.toNat > 132
   ·rw [rlS_form (by omega) h2] at h; cases h
   by_cases h3 : r.length < x.toNat - 128
   ·rw [rlS_short (by omega) (by omega) h3] at h; cases h
   cases r with
   | nil => simp at h3; omega
   | cons y s =>
     rw [List.length_cons] at h3
     obtain ⟨k, hk⟩ : ∃ k, x.toNat = k + 128 := ⟨x.toNat - 128, by omega⟩
     by_cases h4 : y.toNat = 0 ∨ beV ((y :: s).take k) < 128 ∨ beV ((y :: s).take k) > 2147483647
     ·rw [rlS_bad hk (by omega) (by omega) (by omega) h4] at h; cases h
     ·rw [rlS_ok hk (by omega) (by omega) (by omega) h4]
      obtain ⟨j, rfl⟩ : ∃ j, k = j + 1 := ⟨k - 1, by omega⟩
      rw [List.take_succ_cons] at h4 ⊢
      show (x :: y :: s).take (j + 1 + 1) = lenS (beV (y :: s.take j))
      rw [List.take_succ_cons, List.take_succ_cons, lenS, if_neg (by omega), (minN_beV y (by omega) j _ (by rw [List.length_take]; omega)).1, List.length_cons, List.length_take, show 128 + (min j s.length + 1) = x.toNat by omega, ofNat_self]
theorem idN_eq (c n : Nat) (k : Bool) : idN c k n = c * 64 + n + (if k then 32 else 0) := by unfold idN; cases k <;> simp <;> omega
theorem idB_toNat {c n : Nat} (k : Bool) (hc : c ≤ 3) (hn : n ≤ 30) : (UInt8.ofNat (idN c k n)).toNat = c * 64 + n + (if k then 32 else 0) := by
 have := idN_lt k hc hn
 rw [UInt8.toNat_ofNat', Nat.mod_eq_of_lt (by omega), idN_eq]
theorem rhS_put {c n : Nat} {k : Bool} (l rest : List UInt8) (hc : c ≤ 3) (hn : n ≤ 30) (hl : l.length ≤ 2147483647) : rhS (encS c n k l ++ rest) = ⟨c, n, k, l.length, (lenS l.length).length + 1, 0, 0⟩ := by
 have hx := idB_toNat k hc hn
 unfold encS putS
 generalize UInt8.ofNat (idN c k n) = x at hx
 rw [List.cons_append, List.append_assoc, rhS, rlS_len _ hl]
 cases k
 ·simp only [Bool.false_eq_true, ite_false, Nat.add_zero] at hx
  rw [if_neg (by omega), if_pos rfl, show x.toNat / 64 = c by omega, show x.toNat % 32 = n by omega, show (x.toNat / 32 % 2 == 1) = false by rw [beq_eq_false_iff_ne]; omega]
 ·simp only [ite_true] at hx
  rw [if_neg (by omega), if_pos rfl, show x.toNat / 64 = c by omega, show x.toNat % 32 = n by omega, show (x.toNat / 32 % 2 == 1) = true by rw [beq_iff_eq]; omega]
theorem rhS_inv {l : List UInt8} (h : (rhS l).code = 0) (hle : (rhS l).size + (rhS l).len ≤ l.length) : l.take ((rhS l).size + (rhS l).len) = encS (rhS l).c (rhS l).n (rhS l).k ((l.drop (rhS l).size).take (rhS l).len) := by
 cases l with
 | nil => simp [rhS, Hd.bad] at h
 | cons x r =>
   have hx := x.toNat_lt
   rw [rhS] at h hle ⊢
   by_cases h1 : x.toNat % 32 = 31
   ·rw [if_pos h1] at h; simp [Hd.bad] at h
   rw [if_neg h1] at h hle ⊢
   by_cases h2 : (rlS r).2.2.1 = 0
   ·rw [if_pos h2] at h hle ⊢
    have hi := rlS_inv h2
    simp only [List.length_cons] at hle ⊢
    rw [show (rlS r).2.1 + 1 + (rlS r).1 = (rlS r).2.1 + (rlS r).1 + 1 by omega, List.take_succ_cons, List.drop_succ_cons]
    have hlen : ((r.drop (rlS r).2.1).take (rlS r).1).length = (rlS r).1 := by rw [List.length_take, List.length_drop]; omega
    unfold encS putS
    rw [hlen, ← hi, ← List.take_add]
    congr 1
    apply UInt8.toNat_inj.1
    rw [idB_toNat _ (by omega) (by omega)]
    by_cases hb : x.toNat / 32 % 2 = 1
    ·rw [show (x.toNat / 32 % 2 == 1) = true from beq_iff_eq.2 hb, if_pos rfl]; omega
    ·rw [show (x.toNat / 32 % 2 == 1) = false from beq_eq_false_iff_ne.2 hb, if_neg (by simp)]; omega
   ·rw [if_neg h2] at h; exact absurd h h2
structure Tv where
 c : Nat
 n : Nat
 k : Bool
 v : List UInt8
 deriving DecidableEq
def Tv.enc (t : Tv) : List UInt8 := encS t.c t.n t.k t.v
structure Tv.ok (t : Tv) : Prop where
 c : t.c ≤ 3
 n : t.n ≤ 30
 v : t.v.length ≤ 2147483647
def Tv.hd (t : Tv) : Nat := (lenS t.v.length).length + 1
theorem Tv.len (t : Tv) : t.enc.length = t.hd + t.v.length := by
 unfold Tv.enc Tv.hd encS putS
 rw [List.length_cons, List.length_append]; omega
theorem Tv.body (t : Tv) : t.enc.drop t.hd = t.v := by
 unfold Tv.enc Tv.hd encS putS
 rw [List.drop_succ_cons, List.drop_left]
theorem Tv.hd_pos (t : Tv) (h : t.ok) : 2 ≤ t.hd := by have := lenS_len _ h.v; unfold Tv.hd; omega
theorem Tv.rh {t : Tv} (h : t.ok) (rest : List UInt8) : rhS (t.enc ++ rest) = ⟨t.c, t.n, t.k, t.v.length, t.hd, 0, 0⟩ := rhS_put t.v rest h.c h.n h.v
theorem Tv.inj {t u : Tv} (ht : t.ok) (hu : u.ok) {r s : List UInt8} (h : t.enc ++ r = u.enc ++ s) : t = u ∧ r = s := by
 have h1 := Tv.rh ht r
 have h2 := Tv.rh hu s
 rw [h] at h1
 rw [h1] at h2
 injection h2 with e1 e2 e3 e4 e5
 have hb : t.enc = u.enc := by
  have := congrArg (List.take t.enc.length) h
  rw [List.take_left, show t.enc.length = u.enc.length by rw [Tv.len, Tv.len]; omega, List.take_left] at this
  exact this
 have hv : t.v = u.v := by rw [← t.body, ← u.body, hb, show t.hd = u.hd from e5]
 obtain ⟨a, b, c, d⟩ := t
 obtain ⟨a', b', c', d'⟩ := u
 simp only at e1 e2 e3 hv
 subst e1 e2 e3 hv
 exact ⟨rfl, List.append_cancel_left h⟩
def Tv.el (at' : Nat) (t : Tv) : El := ⟨t.c, t.n, t.k, at', at' + t.hd, at' + t.enc.length⟩
theorem nxS_put {b pre rest : List UInt8} {t : Tv} {en : Nat} (ht : t.ok) (hb : b.take en = pre ++ (t.enc ++ rest)) (hen : en ≤ b.length) : nxS b pre.length en = ⟨t.el pre.length, 0, 0⟩ := by
 have hd : (b.drop pre.length).take (en - pre.length) = t.enc ++ rest := by
  rw [← List.drop_take, hb, List.drop_left]
 have hl : en = pre.length + (t.enc ++ rest).length := by
  have := congrArg List.length hb
  rw [List.length_take, List.length_append] at this; omega
 rw [List.length_append] at hl
 have hr := Tv.rh ht rest
 rw [← hd] at hr
 rw [nxS_ok hr rfl (by have := t.len; show t.hd + t.v.length ≤ _; omega)]
 simp only [Tv.el, Tv.len, Nat.add_assoc]
theorem nxS_inv {b : List UInt8} {at' en : Nat} (h1 : at' ≤ en) (h2 : en ≤ b.length) (h : (nxS b at' en).code = 0) : ∃ t : Tv, t.ok ∧ (nxS b at' en).x = t.el at' ∧ (b.drop at').take (en - at') = t.enc ++ (b.drop (at' + t.enc.length)).take (en - (at' + t.enc.length)) ∧ at' + t.enc.length ≤ en := by
 have hlen : ((b.drop at').take (en - at')).length = en - at' := by rw [List.length_take, List.length_drop]; omega
 have hB := rhS_bounds ((b.drop at').take (en - at'))
 unfold nxS at h ⊢
 by_cases k1 : (rhS ((b.drop at').take (en - at'))).code ≠ 0
 ·rw [if_pos k1] at h; exact absurd h k1
 rw [if_neg k1] at h ⊢
 by_cases k2 : en - at' < (rhS ((b.drop at').take (en - at'))).size + (rhS ((b.drop at').take (en - at'))).len
 ·rw [if_pos k2] at h; cases h
 rw [if_neg k2]
 have hi := rhS_inv (Decidable.not_not.1 k1) (by rw [hlen]; omega)
 have hb := hB.1 (Decidable.not_not.1 k1)
 generalize hL : (b.drop at').take (en - at') = L at hi hB hb k2 hlen ⊢
 generalize hh : rhS L = hd at hi hB hb k2 ⊢
 obtain ⟨-, c2, c3, c4, c5, c6, c7⟩ := hB
 have hv : ((L.drop hd.size).take hd.len).length = hd.len := by rw [List.length_take, List.length_drop]; omega
 refine ⟨⟨hd.c, hd.n, hd.k, (L.drop hd.size).take hd.len⟩, ⟨c6, c7, by rw [hv]; exact c4⟩, ?_, ?_, ?_⟩
 ·have hl := congrArg List.length hi
  rw [List.length_take] at hl
  have hl2 := Tv.len ⟨hd.c, hd.n, hd.k, (L.drop hd.size).take hd.len⟩
  have hl3 : (Tv.enc ⟨hd.c, hd.n, hd.k, (L.drop hd.size).take hd.len⟩).length = hd.size + hd.len := by
   show (encS hd.c hd.n hd.k ((L.drop hd.size).take hd.len)).length = _
   omega
  have hl4 : Tv.hd ⟨hd.c, hd.n, hd.k, (L.drop hd.size).take hd.len⟩ = hd.size := by rw [hl3] at hl2; simp only [hv] at hl2; omega
  simp only [Tv.el, hl3, hl4, Nat.add_assoc]
 ·have hl := congrArg List.length hi
  rw [List.length_take] at hl
  show L = encS hd.c hd.n hd.k ((L.drop hd.size).take hd.len) ++ (b.drop (at' + (encS hd.c hd.n hd.k ((L.drop hd.size).take hd.len)).length)).take (en - (at' + (encS hd.c hd.n hd.k ((L.drop hd.size).take hd.len)).length))
  rw [← hi, List.length_take]
  conv => lhs; rw [← List.take_append_drop (hd.size + hd.len) L]
  congr 1
  rw [← hL, List.drop_take, List.drop_drop, hL, show min (hd.size + hd.len) L.length = hd.size + hd.len by omega]
  congr 1
  omega
 ·have hl := congrArg List.length hi
  rw [List.length_take] at hl
  show at' + (encS hd.c hd.n hd.k ((L.drop hd.size).take hd.len)).length ≤ en
  omega
theorem oneS_put {t : Tv} (ht : t.ok) : oneS t.enc = ⟨t.el 0, 0, 0⟩ := by
 have h := nxS_put (b := t.enc) (pre := []) (rest := []) (en := t.enc.length) ht (by simp) (Nat.le_refl _)
 rw [List.length_nil] at h
 unfold oneS
 rw [h, if_neg]
 rintro ⟨-, h2⟩
 simp only [Tv.el] at h2
 omega
theorem oneS_inv {b : List UInt8} (h : (oneS b).code = 0) : ∃ t : Tv, t.ok ∧ oneS b = ⟨t.el 0, 0, 0⟩ ∧ b = t.enc := by
 have hF := (oneS_facts b).1 h
 unfold oneS at h hF ⊢
 by_cases k : (nxS b 0 b.length).code = 0 ∧ (nxS b 0 b.length).x.stop < b.length
 ·rw [if_pos k] at h; cases h
 rw [if_neg k] at h hF ⊢
 obtain ⟨t, h1, h2, h3, h4⟩ := nxS_inv (Nat.zero_le _) (Nat.le_refl _) h
 have hs := hF.2.2.2.1
 rw [h2] at hs
 simp only [Tv.el, Nat.zero_add] at hs
 refine ⟨t, h1, ?_, ?_⟩
 ·generalize nxS b 0 b.length = r at h h2 hF
  obtain ⟨x, c, o⟩ := r
  simp only at h h2 hF
  rw [h, h2, hF.2.2.2.2]
 ·rw [List.drop_zero, Nat.sub_zero, List.take_length, hs, Nat.zero_add, Nat.sub_self, List.take_zero, List.append_nil] at h3
  exact h3
def tvsE (ts : List Tv) : List UInt8 := ts.flatMap Tv.enc
def els : Nat → List Tv → List El
 | _, [] => []
 | at', t :: r => t.el at' :: els (at' + t.enc.length) r
theorem tvsE_cons (t : Tv) (r : List Tv) : tvsE (t :: r) = t.enc ++ tvsE r := List.flatMap_cons
theorem enc_pos {t : Tv} (h : t.ok) : 2 ≤ t.enc.length := by have := t.hd_pos h; rw [Tv.len]; omega
theorem listS_put : ∀ (ts : List Tv) (b pre : List UInt8) (en : Nat), (∀ t ∈ ts, t.ok) → b.take en = pre ++ tvsE ts → en ≤ b.length → listS b pre.length en = ⟨els pre.length ts, 0, 0⟩
 | [], b, pre, en, _, hb, hen => by
   have := congrArg List.length hb
   rw [List.length_take, List.length_append] at this
   rw [listS_end (by show ¬ pre.length < en; simp [tvsE] at this; omega)]; rfl
 | t :: r, b, pre, en, ht, hb, hen => by
   have h0 := ht t (by simp)
   rw [tvsE_cons] at hb
   have hx := nxS_put h0 hb hen
   have hl := congrArg List.length hb
   rw [List.length_take, List.length_append, List.length_append] at hl
   have hp := enc_pos h0
   have ih := listS_put r b (pre ++ t.enc) en (fun u hu => ht u (by simp [hu])) (by rw [hb, List.append_assoc]) hen
   rw [List.length_append] at ih
   have hst : (nxS b pre.length en).x.stop = pre.length + t.enc.length := by rw [hx]; rfl
   rw [listS_step hen (by omega) (by rw [hx]), hst, ih, if_neg (by simp), hx]; rfl
theorem listS_inv : ∀ (f : Nat) (b : List UInt8) (at' en : Nat), en - at' ≤ f → at' ≤ en → en ≤ b.length → (listS b at' en).code = 0 → ∃ ts : List Tv, (∀ t ∈ ts, t.ok) ∧ listS b at' en = ⟨els at' ts, 0, 0⟩ ∧ (b.drop at').take (en - at') = tvsE ts
 | f, b, at', en, hf, h1, h2, h => by
   by_cases hlt : at' < en
   ·by_cases k : (nxS b at' en).code ≠ 0
    ·rw [listS_bad hlt k] at h; exact absurd h k
    ·have k' := Decidable.not_not.1 k
     obtain ⟨t, t1, t2, t3, t4⟩ := nxS_inv h1 h2 k'
     have hp := enc_pos t1
     have hs := listS_step h2 hlt k'
     have hst : (nxS b at' en).x.stop = at' + t.enc.length := by rw [t2]; rfl
     rw [hst] at hs
     by_cases k3 : (listS b (at' + t.enc.length) en).code ≠ 0
     ·rw [hs, if_pos k3] at h; exact absurd h k3
     ·match f, hf with
      | 0, hf => omega
      | f + 1, hf =>
        obtain ⟨ts, e1, e2, e3⟩ := listS_inv f b (at' + t.enc.length) en (by omega) t4 h2 (Decidable.not_not.1 k3)
        refine ⟨t :: ts, fun u hu => ?_, ?_, ?_⟩
        ·rcases List.mem_cons.1 hu with rfl | hu
         ·exact t1
         ·exact e1 u hu
        ·rw [hs, if_neg k3, e2, t2]; rfl
        ·rw [t3, e3]; rfl
   ·refine ⟨[], by simp, ?_, ?_⟩
    ·rw [listS_end hlt]; rfl
    ·rw [show en - at' = 0 by omega]; rfl
end Go.Proofs.YtblabcopgeobgaaGreatDoor
