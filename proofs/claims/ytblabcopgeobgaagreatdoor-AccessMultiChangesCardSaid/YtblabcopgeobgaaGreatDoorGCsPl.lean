/- GCsPl: the texts CsPl, one behind the other. No condition but what each lemma says. -/
import Derived.Test.YtblabcopgeobgaaGreatDoorGUtf
import Derived.Test.YtblabcopgeobgaaGreatDoorGBase
namespace Go.Proofs.YtblabcopgeobgaaGreatDoor
open Go.RowKit
open Go.Lib (validD decodeL)
def widthS (k : Int) : Int := if k = 12 then 0 else if k = 28 then 4 else if k = 30 then 2 else if k = 19 ∨ k = 20 ∨ k = 22 ∨ k = 26 then 1 else -1
def oth : List Nat := [32, 39, 40, 41, 43, 44, 45, 46, 47, 58, 61, 63]
def prn (x : Nat) : Bool := decide ((48 ≤ x ∧ x < 58) ∨ (65 ≤ x ∧ x < 91) ∨ (97 ≤ x ∧ x < 123)) || oth.contains x
def hasS (k : Int) (x : Nat) : Bool :=
 if k = 12 ∨ k = 28 then scal x else if k = 30 then scal x && decide (x < 65536) else if k = 22 then decide (x < 128)
 else if k = 26 then decide (32 ≤ x ∧ x < 127) else if k = 20 then decide ((32 ≤ x ∧ x < 127) ∨ (160 ≤ x ∧ x < 256))
 else if k = 19 then prn x else false
def validS (k : Int) (l : List UInt8) : Bool := validD l && !decide (widthS k < 0) && (rns l).all (hasS k)
theorem validS_bad {k : Int} {l : List UInt8} (h : validD l = false) : validS k l = false := by unfold validS; rw [h]; rfl
theorem validS_kind {k : Int} {l : List UInt8} (h : widthS k < 0) : validS k l = false := by unfold validS; simp [h]
theorem validS_char {k : Int} {l : List UInt8} {m : Nat} (h : m < (rns l).length) (hh : hasS k ((rns l).getD m 0) = false) : validS k l = false := by
 have : (rns l).all (hasS k) = false := by
  rw [List.all_eq_false]
  exact ⟨(rns l)[m], List.getElem_mem h, by rw [List.getD_eq_getElem?_getD, List.getElem?_eq_getElem h] at hh; simpa using hh⟩
 unfold validS; rw [this]; simp
theorem validS_yes {k : Int} {l : List UInt8} (h1 : validD l = true) (h2 : ¬ widthS k < 0) (h : ∀ m, m < (rns l).length → hasS k ((rns l).getD m 0) = true) : validS k l = true := by
 have : (rns l).all (hasS k) = true := by
  rw [List.all_eq_true]
  intro x hx
  obtain ⟨m, hm, rfl⟩ := List.getElem_of_mem hx
  have := h m hm
  rwa [List.getD_eq_getElem?_getD, List.getElem?_eq_getElem hm] at this
 unfold validS; rw [this, h1]; simp; omega
theorem cell_below {w w' : World} {a : Addr} {u : Value} (h : w.cell? a = some u) (hb : Below w.heap.size w w') : w'.cell? a = some u := by
 rw [hb.cell (lt_of_cell h)]; exact h
def bigE : Nat → Nat → List UInt8
 | 0, _ => []
 | n + 1, x => UInt8.ofNat (x / 256 ^ n) :: bigE n x
theorem bigE_len (n x : Nat) : (bigE n x).length = n := by
 induction n with
 | zero => rfl
 | succ n ih => simp [bigE, ih]
def chS (k : Int) (l : List UInt8) : List UInt8 := if widthS k = 0 then l else (rns l).flatMap (bigE (widthS k).toNat)
def encR (k : Int) (l : List UInt8) : List UInt8 := if validS k l then chS k l else []
def encC (k : Int) (l : List UInt8) : Int := if validS k l then 0 else 8
theorem flat_congr {f g : Nat → List UInt8} : ∀ l : List Nat, (∀ x ∈ l, f x = g x) → l.flatMap f = l.flatMap g
 | [], _ => rfl
 | a :: l, h => by rw [List.flatMap_cons, List.flatMap_cons, h a List.mem_cons_self, flat_congr l fun x hx => h x (List.mem_cons_of_mem _ hx)]
def numAt (c : List UInt8) (i : Nat) : Nat → Nat
 | 0 => 0
 | k + 1 => numAt c i k * 256 + (c.getD (i + k) 0).toNat
def unitsTo (W : Nat) (c : List UInt8) (j : Nat) : List UInt8 := (List.range j).flatMap fun q => octs (numAt c (q * W) W)
def decB (k : Int) (c : List UInt8) : List UInt8 := if widthS k = 0 then c else unitsTo (widthS k).toNat c (c.length / (widthS k).toNat)
def okD (k : Int) (c : List UInt8) : Bool := validS k (decB k c) && (chS k (decB k c) == c)
def decK (k : Int) (c : List UInt8) : Int := if widthS k < 0 then 0 else if okD k c then k else 0
def decV (k : Int) (c : List UInt8) : List UInt8 := if widthS k < 0 then [] else if okD k c then decB k c else []
def decC (k : Int) (c : List UInt8) : Int := if widthS k < 0 then 3 else if okD k c then 0 else 6
theorem numAt_lt (c : List UInt8) (i : Nat) : ∀ k, numAt c i k < 256 ^ k
 | 0 => by simp [numAt]
 | k + 1 => by
   have := numAt_lt c i k
   have h2 := (c.getD (i + k) 0).toNat_lt
   simp only [numAt, Nat.pow_succ]
   omega
theorem width_cases (k : Int) (hk : ¬ widthS k < 0) : k = 12 ∨ k = 19 ∨ k = 20 ∨ k = 22 ∨ k = 26 ∨ k = 28 ∨ k = 30 := by
 unfold widthS at hk
 (repeat' split at hk) <;> omega
def DecPost (k : Int) (c : List UInt8) (w : World) (e : Ending) (w' : World) : Prop :=
 e = .returned (.tuple #[.agg #[.int .i64 (decK k c), .string ⟨(decV k c).toArray⟩], .int .i64 (decC k c)]) ∧ Below w.heap.size w w'
end Go.Proofs.YtblabcopgeobgaaGreatDoor
