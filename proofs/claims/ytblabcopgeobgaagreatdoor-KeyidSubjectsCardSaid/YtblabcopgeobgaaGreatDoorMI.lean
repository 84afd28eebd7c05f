/- MI: the texts OidP Pre Str Oid Oid2 OidE OidR OidS Tree Tree2 Tree3 Tree4 T T2 T3 Ref10 Pl, one behind the other. No condition but what each lemma says. -/
import Derived.Lib.ItoaNum
import Derived.Lib.SplitLaws
import Derived.Lib.ParseIntBCases
import Derived.Test.YtblabcopgeobgaaGreatDoorMC
import Derived.Test.YtblabcopgeobgaaGreatDoorME
import Derived.Test.YtblabcopgeobgaaGreatDoorMD
import Derived.Lib.ItoaMem
/- Object identifiers: their strings, arcs and octets, in plain Lean. No condition. -/
namespace Go.Proofs.YtblabcopgeobgaaGreatDoor
open Go

/-- The parts between points. -/
def dots : List UInt8 → List (List UInt8)
  | [] => [[]]
  | c :: r => if c = 46 then [] :: dots r else match dots r with
    | p :: ps => (c :: p) :: ps
    | [] => [[c]]
theorem dots_ne : ∀ s, ∃ p ps, dots s = p :: ps
  | [] => ⟨_, _, rfl⟩
  | c :: r => by
    obtain ⟨p, ps, h⟩ := dots_ne r
    unfold dots
    by_cases hc : c = 46
    · rw [if_pos hc]; exact ⟨_, _, rfl⟩
    · rw [if_neg hc, h]; exact ⟨_, _, rfl⟩
open Lib in
theorem index_dot_ne {c : UInt8} {r : List UInt8} (hc : c ≠ 46) : index (c :: r) [46] = if index r [46] == -1 then -1 else index r [46] + 1 := by
  rw [index]; simp [List.isPrefixOf, Ne.symm hc]
open Lib in
theorem splitK_ne {c : UInt8} (hc : c ≠ 46) : ∀ (k : Nat) (r : List UInt8) {p ps}, splitK [46] 0 k r = p :: ps → splitK [46] 0 k (c :: r) = (c :: p) :: ps
  | 0, r, p, ps, h => by rw [splitK] at h ⊢; cases h; rfl
  | k + 1, r, p, ps, h => by
    have hx := index_dot_ne (r := r) hc
    have hg := index_ge r [46]
    rw [splitK] at h ⊢
    by_cases hm : index r [46] = -1
    · rw [if_pos (beq_iff_eq.2 hm)] at h
      rw [if_pos (beq_iff_eq.2 hm)] at hx
      rw [if_pos (beq_iff_eq.2 hx)]
      cases h; rfl
    · rw [if_neg (fun e => hm (beq_iff_eq.1 e))] at h hx
      rw [if_neg (by rw [beq_iff_eq]; omega), hx]
      cases h
      obtain ⟨j, hj⟩ : ∃ j : Nat, index r [46] = j := ⟨(index r [46]).toNat, by omega⟩
      rw [hj]
      rw [show ((j : Int) + 1).toNat = j + 1 by omega, show (j : Int).toNat = j by omega]
      simp
open Lib in
theorem split_dots : ∀ s : List UInt8, splitK [46] 0 (s.count 46) s = dots s
  | [] => rfl
  | c :: r => by
    obtain ⟨p, ps, h⟩ := dots_ne r
    have ih := split_dots r
    rw [dots]
    by_cases hc : c = 46
    · subst hc
      rw [if_pos rfl, List.count_cons_self, splitK]
      have hx : index (46 :: r) [46] = 0 := by rw [index]; simp [List.isPrefixOf]
      rw [if_neg (by rw [hx]; decide), hx, ← ih]
      simp
    · rw [if_neg hc, h, List.count_cons_of_ne (fun e => hc e), splitK_ne hc _ _ (ih.trans h)]
open Lib in
theorem splitB_dots (s : List UInt8) : splitB ⟨#[46]⟩ 0 (countB ⟨⟨s⟩⟩ ⟨#[46]⟩) ⟨⟨s⟩⟩ = (dots s).map fun p => ⟨⟨p⟩⟩ := by
  have h1 := splitB_data ⟨#[46]⟩ 0 (countB ⟨⟨s⟩⟩ ⟨#[46]⟩) ⟨⟨s⟩⟩
  have h2 : countB ⟨⟨s⟩⟩ ⟨#[46]⟩ = s.count 46 := count_one 46 s
  rw [h2] at h1 ⊢
  rw [show splitK ((⟨#[46]⟩ : ByteArray).data.toList) 0 (s.count 46) ((⟨⟨s⟩⟩ : ByteArray).data.toList) = dots s from split_dots s] at h1
  rw [← h1, List.map_map]
  conv => lhs; rw [← List.map_id (splitB ⟨#[46]⟩ 0 (s.count 46) ⟨⟨s⟩⟩)]
  exact List.map_congr_left fun x _ => rfl

/-- The number that digits spell behind others. -/
def numS (acc : Nat) (l : List UInt8) : Nat := l.foldl (fun a c => a * 10 + (c.toNat - 48)) acc
theorem numS_cons (acc : Nat) (c : UInt8) (r : List UInt8) : numS acc (c :: r) = numS (acc * 10 + (c.toNat - 48)) r := by unfold numS; rw [List.foldl_cons]
theorem numS_ge : ∀ (l : List UInt8) (acc : Nat), acc ≤ numS acc l
  | [], _ => Nat.le_refl _
  | c :: r, acc => by
    have := numS_ge r (acc * 10 + (c.toNat - 48))
    rw [numS_cons]; omega
open Lib in
theorem parseM_ok : ∀ (l : List UInt8) (acc : Nat), (∀ b ∈ l, 48 ≤ b.toNat ∧ b.toNat ≤ 57) → numS acc l ≤ 4294967295 → parseUintM 4294967295 acc l = .ok (numS acc l)
  | [], _, _, _ => rfl
  | c :: r, acc, h1, h2 => by
    have hc := h1 c (by simp)
    have hg := numS_ge r (acc * 10 + (c.toNat - 48))
    rw [numS_cons] at h2 ⊢
    rw [parseUintM, if_pos hc, if_neg (by omega), if_neg (by omega)]
    exact parseM_ok r _ (fun b hb => h1 b (by simp [hb])) h2
open Lib in
theorem parseM_num : ∀ (l : List UInt8) (acc u : Nat), parseUintM 4294967295 acc l = .ok u → numS acc l = u
  | [], _, _, h => by rw [parseUintM] at h; cases h; rfl
  | c :: r, acc, u, h => by
    rw [parseUintM] at h
    split at h
    · split at h
      · cases h
      · split at h
        · cases h
        · exact parseM_num r _ u h
    · cases h
end Go.Proofs.YtblabcopgeobgaaGreatDoor

/- A closure that is given pointers, walked in two parts: first by itself, as if it were a call of its own that makes a slice; then inline, with the caller's boxes. No condition. -/
namespace Go.Proofs.YtblabcopgeobgaaGreatDoor
open Go.RowKit

end Go.Proofs.YtblabcopgeobgaaGreatDoor

/- strings.Split and Join, strconv.ParseUint and FormatUint as contracts that tell data. No condition but sizes that memory bears. -/
namespace Go.Proofs.YtblabcopgeobgaaGreatDoor
open Go.RowKit

open Go.Sort Go.Lib in
set_option maxHeartbeats 6400000 in
set_option maxRecDepth 100000 in
theorem fmtI_walk (u : Nat) (hu64 : u < 18446744073709551616) (w : World) (htab : Lib.TabIs Tryz.prog w "internal/strconv.uint64pow10" .u64 Lib.pow10Tab) :
    Calls Tryz.prog 159 #[.int .u64 u, .int .i64 10] w fun e w' => e = .returned (.string ⟨(Lib.decDigits u).toArray⟩) ∧ Below w.heap.size w w' := by
  by_cases hs : u < 100
  · have d1 : decide ((u : Int) < 100) = true := decide_eq_true (by omega)
    have w1 : IntKind.i64.wrap (u : Int) = (u : Int) := IntWalk.i64_in _ (by omega)
    have hc := fun w => Tryz.internal_strconv_small u hs w
    go_enter Tryz.func159, Tryz.ntmps159
    go_wp2_with (go_at_call 188; refine (hc _).mono ?_; rintro e w' ⟨rfl, rfl⟩)
    go_ret
    exact ⟨rfl, Below.refl _ _⟩
  · have d1 : decide ((u : Int) < 100) = false := decide_eq_false (by omega)
    have hnd20 : Lib.nDigits u ≤ 20 := by have := Lib.numDigits_eq u (by omega) hu64; split at this <;> omega
    have hal : Tryz.prog.arrayLen 240 = 24 := by simp [Program.arrayLen, Tryz.underlying240]
    have hsl1 : ∀ W, (Instr.sliceAt 240 (.pointer (some ⟨w.heap.size, 0, none⟩)) none (some (.int .i64 (Lib.nDigits u : Int))) none).run Tryz.prog W = .ok (.slice (some ⟨w.heap.size, 0, none⟩) (Lib.nDigits u) 24) W := fun W => by
      rw [run_sliceAt_array_h W 240 ⟨w.heap.size, 0, none⟩ (by simp [Program.arrayLen, Program.elem, Tryz.underlying240]) .i64 (Lib.nDigits u : Int) (by omega) (by rw [hal]; omega)]
      rw [hal]; simp [Program.elem, Tryz.underlying240, Tryz.sizeOf5, Result.andThen, slicedAt, Lib.add_plain]
    have hH0 : Holds (fun (b : UInt8) => Value.int .u8 (b.toNat : Int)) (w.alloc (.cells Lib.zeros24 240)) w.heap.size 0 (Array.replicate (Lib.nDigits u) (0 : UInt8)) := fun i hi => by
      simp only [Array.size_replicate] at hi
      refine ⟨?_, World.frozen?_alloc_new _ _ _ _⟩
      rw [World.cell?_alloc_new, Nat.zero_add, Lib.zeros24_at i (by omega)]
      simp [hi]
    have hfmt := Tryz.internal_strconv_formatBase10 w.heap.size 0 24 u (Array.replicate (Lib.nDigits u) 0) (w.alloc (.cells Lib.zeros24 240)) hH0 (by rw [Array.size_replicate]; exact Lib.lt_pow_nDigits u) hu64 (by rw [Array.size_replicate]; omega)
    rw [Array.size_replicate] at hfmt
    have HH0 := Lib.hid hH0
    clear hH0 hal
    go_enter Tryz.func159, Tryz.ntmps159
    go_wp2_with (first
      | (go_at_call 189; refine (Tryz.internal_strconv_numDigits u (by omega) hu64 _ (Lib.tabIs_alloc htab _)).mono ?_; rintro e w' ⟨rfl, rfl⟩))
    go_at_call 190
    refine hfmt.mono ?_
    rintro e w' ⟨rfl, k, v', dk, rfl, hF⟩
    have hcv : (convert 22 9 (.slice (some ⟨w.heap.size, 0, none⟩) (Lib.nDigits u) 24)).run Tryz.prog ((putRow (fun (b : UInt8) => Value.int .u8 (b.toNat : Int)) (w.alloc (.cells Lib.zeros24 240)) w.heap.size 0 dk).drewN k) = .ok (.string ⟨(Lib.decDigits u).toArray⟩) ((putRow (fun (b : UInt8) => Value.int .u8 (b.toNat : Int)) (w.alloc (.cells Lib.zeros24 240)) w.heap.size 0 dk).drewN k) := by
      have h := run_convert_bytes_back (P := Tryz.prog) ((putRow (fun (b : UInt8) => Value.int .u8 (b.toNat : Int)) (w.alloc (.cells Lib.zeros24 240)) w.heap.size 0 dk).drewN k) 22 9 5 ⟨w.heap.size, 0, none⟩ 24 (Lib.decDigits u) Tryz.underlying22 Tryz.underlying5 Tryz.underlying9 (fun j hj => by
        rw [Lib.row_is_numeral hF j hj, Lib.add_plain, World.cell?_drewN]
        exact cell?_putRow (fun (b : UInt8) => Value.int .u8 (b.toNat : Int)) _ w.heap.size 0 _ dk HH0.out (by rw [hF.size, Array.size_replicate]) j (by rw [hF.size]; rw [Lib.decDigits_length] at hj; exact hj))
      rw [Lib.decDigits_length] at h
      exact h
    go_wp2
    go_ret
    refine ⟨rfl, ?_⟩
    refine ⟨rfl, rfl, rfl, ?_, fun i hi => ?_⟩
    · show _ ≤ (putRow _ _ _ _ _).heap.size
      rw [Sort.size_putRow, World.size_alloc]; omega
    · show (putRow _ _ _ _ _).heap[i]? = _
      simp only [putRow, mapBlock, Array.getElem?_modify]
      rw [if_neg (by omega)]
      exact Below.heap_alloc w _ i hi
section
variable {C : Cx} {o : Oper} {σ : AS} {t : Nat}
end
end Go.Proofs.YtblabcopgeobgaaGreatDoor

/- oid: right, Arcs, Valid, Text, Decode. No condition but sizes that memory bears. -/
namespace Go.Proofs.YtblabcopgeobgaaGreatDoor
open Go.RowKit

set_option maxRecDepth 100000
set_option maxHeartbeats 8000000

end Go.Proofs.YtblabcopgeobgaaGreatDoor

/- oid.Decode. No condition but sizes that memory bears. -/
namespace Go.Proofs.YtblabcopgeobgaaGreatDoor
open Go.RowKit
set_option maxRecDepth 100000
set_option maxHeartbeats 8000000

theorem and128 (x : UInt8) : IntKind.u8.wrap ((BitVec.ofInt IntKind.u8.bits (x.toNat : Int) &&& BitVec.ofInt IntKind.u8.bits 128).toNat : Int) = ((x.toNat / 128 * 128 : Nat) : Int) := by
  have h : ∀ x : Fin 256, IntKind.u8.wrap ((BitVec.ofInt IntKind.u8.bits (x.1 : Int) &&& BitVec.ofInt IntKind.u8.bits 128).toNat : Int) = ((x.1 / 128 * 128 : Nat) : Int) := by decide +kernel
  exact h ⟨x.toNat, x.toNat_lt⟩
structure DSt where
  i : Nat
  ns : List Nat
  b : Bool
  n : Nat
end Go.Proofs.YtblabcopgeobgaaGreatDoor

/- oid.Encode. No condition but sizes that memory bears. -/
namespace Go.Proofs.YtblabcopgeobgaaGreatDoor
open Go.RowKit
set_option maxRecDepth 100000
set_option maxHeartbeats 8000000

end Go.Proofs.YtblabcopgeobgaaGreatDoor

/- The reference's object identifiers: digits, number, Right, Arcs, Valid, Text, base, Encode. No condition but sizes that memory bears. -/
namespace Go.Proofs.YtblabcopgeobgaaGreatDoor
open Go.RowKit
set_option maxRecDepth 100000
set_option maxHeartbeats 8000000

end Go.Proofs.YtblabcopgeobgaaGreatDoor

/- The reference's object identifiers: Decode; Object, ReadObject. No condition but sizes that memory bears. -/
namespace Go.Proofs.YtblabcopgeobgaaGreatDoor
open Go.RowKit
set_option maxRecDepth 100000
set_option maxHeartbeats 8000000

theorem bytesEq_any (f : Bool) (g : Bool) (a b : List UInt8) (ha : a.length ≤ 1000000000) (hb : b.length ≤ 1000000000) : ACalls Tryz.prog 15 [.d (bytesD f a), .d (bytesD g b)] (fun r => r = bv (a == b)) := by
  refine acalls_vc 10 _ tabOk mixed Tryz.func15 rfl (by kernel_rfl) rfl rfl rfl rfl fun W0 fp0 z0 => ?_
  (repeat' ((conv => whnf); (with_reducible refine NStr.go ?_))); (all_goals (conv => whnf))
  all_goals (refine NEnd.eq ?_; (repeat' (first | exact leW_refl _ | refine And.intro ?_ ?_ | exact rfl)))
end Go.Proofs.YtblabcopgeobgaaGreatDoor

/- Trees of elements as data; tree.read. No condition but sizes that memory bears. -/
namespace Go.Proofs.YtblabcopgeobgaaGreatDoor
open Go.RowKit

/-- A tree: where its element starts and ends, class, number, constructed, contents, the trees in it. -/
inductive S where
  | mk (at' stop c n : Nat) (k : Bool) (b : List UInt8) (ks : List S)
def S.stop : S → Nat
  | .mk _ stop _ _ _ _ _ => stop
/-- Trees, or an error's code and place. -/
structure SR where
  l : List S
  code : Nat
  off : Nat
def SR.bad (code off : Nat) : SR := ⟨[], code, off⟩
end Go.Proofs.YtblabcopgeobgaaGreatDoor

/- tree.read: the trees in a constructed element. No condition but sizes that memory bears. -/
namespace Go.Proofs.YtblabcopgeobgaaGreatDoor
open Go.RowKit

end Go.Proofs.YtblabcopgeobgaaGreatDoor

/- tree.read, whole. No condition but sizes that memory bears. -/
namespace Go.Proofs.YtblabcopgeobgaaGreatDoor
open Go.RowKit

end Go.Proofs.YtblabcopgeobgaaGreatDoor

/- tree.whole, tree.Parse. No condition but sizes that memory bears. -/
namespace Go.Proofs.YtblabcopgeobgaaGreatDoor
open Go.RowKit
set_option maxRecDepth 100000
set_option maxHeartbeats 8000000

end Go.Proofs.YtblabcopgeobgaaGreatDoor

/- Trees of elements as the reference reads them. No condition. -/
namespace Go.Proofs.YtblabcopgeobgaaGreatDoor
open Go.RowKit

/-- A tree: class, number, constructed, contents, the trees in it. -/
inductive Tr where
  | mk (c n : Nat) (k : Bool) (b : List UInt8) (ks : List Tr)
mutual
def Tr.cells (t : Bool) : Tr → List D
  | .mk c n k b ks => [.v (.int .i64 c), .v (.int .i64 n), .v (.bool k), bytesD t b, .sl t ks.length 5 (Tr.cellss t ks)]
def Tr.cellss (t : Bool) : List Tr → List D
  | [] => []
  | s :: r => s.cells t ++ Tr.cellss t r
end
theorem Tr.cellss_eq (t : Bool) (l : List Tr) : Tr.cellss t l = l.flatMap (Tr.cells t) := by
  induction l with
  | nil => rw [Tr.cellss]; rfl
  | cons s r ih => rw [Tr.cellss, ih, List.flatMap_cons]
theorem Tr.cells_un (t : Bool) : ∀ s : Tr, D.uns (s.cells t) = s.cells false
  | .mk c n k b ks => by
    have h : ∀ l : List Tr, (∀ s, s ∈ l → D.uns (s.cells t) = s.cells false) → D.uns (Tr.cellss t l) = Tr.cellss false l := by
      intro l
      induction l with
      | nil => intro _; rw [Tr.cellss, Tr.cellss]; rfl
      | cons s r ih =>
        intro hs
        rw [Tr.cellss, Tr.cellss, D.uns_eq, List.map_append, ← D.uns_eq, ← D.uns_eq, hs s (by simp), ih fun x hx => hs x (by simp [hx])]
    have hk := h ks fun s hs => Tr.cells_un t s
    rw [Tr.cells, Tr.cells]
    simp only [D.uns, D.un, un_bytesD, hk]
termination_by s => SizeOf.sizeOf s
decreasing_by
  have := List.sizeOf_lt_of_mem hs
  simp only [Tr.mk.sizeOf_spec]; omega
theorem Tr.cellss_un (t : Bool) (l : List Tr) : D.uns (Tr.cellss t l) = Tr.cellss false l := by
  induction l with
  | nil => rw [Tr.cellss, Tr.cellss]; rfl
  | cons s r ih => rw [Tr.cellss, Tr.cellss, D.uns_eq, List.map_append, ← D.uns_eq, ← D.uns_eq, Tr.cells_un, ih]

/-- A tree and how many octets it has, or trees; an error's code and place. -/
structure TR where
  l : List Tr
  size : Nat
  code : Nat
  off : Nat
def TR.bad (code off : Nat) : TR := ⟨[], 0, code, off⟩
def joinT (sz : Nat) (x : Tr) (r : TR) : TR := if r.code = 0 then ⟨x :: r.l, 0, 0, 0⟩ else .bad r.code (sz + r.off)
theorem joinT_ok {sz : Nat} {x : Tr} {r : TR} (h : r.code = 0) : joinT sz x r = ⟨x :: r.l, 0, 0, 0⟩ := if_pos h
theorem joinT_bad {sz : Nat} {x : Tr} {r : TR} (h : r.code ≠ 0) : joinT sz x r = .bad r.code (sz + r.off) := if_neg h
/-- The trees that bytes consist of. -/
def kT (rd : List UInt8 → TR) : Nat → List UInt8 → TR
  | 0, _ => ⟨[], 0, 0, 0⟩
  | f + 1, l => if l.length = 0 then ⟨[], 0, 0, 0⟩ else match rd l with
    | ⟨t :: _, sz, 0, _⟩ => joinT sz t (kT rd f (l.drop sz))
    | r => .bad r.code r.off
def kidsT (rd : List UInt8 → TR) (l : List UInt8) : TR := kT rd l.length l
theorem kT_end {rd : List UInt8 → TR} {f : Nat} {l : List UInt8} (h : l.length = 0) : kT rd f l = ⟨[], 0, 0, 0⟩ := by
  cases f with
  | zero => rfl
  | succ f => rw [kT, if_pos h]
theorem kT_yes {rd : List UInt8 → TR} {f : Nat} {l : List UInt8} {t : Tr} {sz : Nat} (h : l.length ≠ 0) (h1 : rd l = ⟨[t], sz, 0, 0⟩) : kT rd (f + 1) l = joinT sz t (kT rd f (l.drop sz)) := by
  rw [kT, if_neg h, h1]; rfl
theorem kT_no {rd : List UInt8 → TR} {f : Nat} {l : List UInt8} (h : l.length ≠ 0) (h1 : (rd l).code ≠ 0) : kT rd (f + 1) l = .bad (rd l).code (rd l).off := by
  rw [kT, if_neg h]
  generalize rd l = r at *
  obtain ⟨l, s, c, o⟩ := r
  cases c with
  | zero => exact absurd rfl h1
  | succ c => cases l <;> rfl
/-- What a reader promises. -/
def RdT (rd : List UInt8 → TR) : Prop := ∀ l, ((rd l).code = 0 → ∃ t sz, rd l = ⟨[t], sz, 0, 0⟩ ∧ 2 ≤ sz ∧ sz ≤ l.length) ∧ ((rd l).code ≠ 0 → (rd l).off ≤ l.length ∧ (rd l).l = [] ∧ (rd l).size = 0 ∧ (rd l).code ≤ 9)
theorem kT_more {rd : List UInt8 → TR} (hr : RdT rd) : ∀ (f g : Nat) (l : List UInt8), l.length ≤ f → f ≤ g → kT rd g l = kT rd f l := by
  intro f
  induction f with
  | zero => intro g l h1 h2; rw [kT_end (by omega), kT_end (by omega)]
  | succ f ih =>
    intro g l h1 h2
    obtain ⟨g, rfl⟩ : ∃ j, g = j + 1 := ⟨g - 1, by omega⟩
    by_cases h3 : l.length = 0
    · rw [kT_end h3, kT_end h3]
    · by_cases h4 : (rd l).code = 0
      · obtain ⟨t, sz, e1, e2, e3⟩ := (hr l).1 h4
        rw [kT_yes h3 e1, kT_yes h3 e1, ih g _ (by rw [List.length_drop]; omega) (by omega)]
      · rw [kT_no h3 h4, kT_no h3 h4]
theorem kidsT_end {rd : List UInt8 → TR} {l : List UInt8} (h : l.length = 0) : kidsT rd l = ⟨[], 0, 0, 0⟩ := kT_end h
theorem kidsT_bad {rd : List UInt8 → TR} {l : List UInt8} (h : l.length ≠ 0) (h1 : (rd l).code ≠ 0) : kidsT rd l = .bad (rd l).code (rd l).off := by
  obtain ⟨f, hf⟩ : ∃ f, l.length = f + 1 := ⟨l.length - 1, by omega⟩
  rw [kidsT, hf]; exact kT_no h h1
theorem kidsT_step {rd : List UInt8 → TR} (hr : RdT rd) {l : List UInt8} {t : Tr} {sz : Nat} (h : l.length ≠ 0) (h1 : rd l = ⟨[t], sz, 0, 0⟩) : kidsT rd l = joinT sz t (kidsT rd (l.drop sz)) := by
  obtain ⟨f, hf⟩ : ∃ f, l.length = f + 1 := ⟨l.length - 1, by omega⟩
  have h2 : (rd l).code = 0 := by rw [h1]
  obtain ⟨t', sz', e1, e2, e3⟩ := (hr l).1 h2
  have hs : sz' = sz := by rw [h1] at e1; cases e1; rfl
  subst hs
  rw [kidsT, hf, kT_yes h h1, kidsT, kT_more hr (l.drop sz').length f _ (Nat.le_refl _) (by rw [List.length_drop]; omega)]
theorem kidsT_facts {rd : List UInt8 → TR} (hr : RdT rd) : ∀ (f : Nat) (l : List UInt8), l.length ≤ f → ((kidsT rd l).code = 0 → kidsT rd l = ⟨(kidsT rd l).l, 0, 0, 0⟩) ∧ ((kidsT rd l).code ≠ 0 → (kidsT rd l).off ≤ l.length ∧ (kidsT rd l).code ≤ 9) := by
  intro f
  induction f with
  | zero => intro l h; rw [kidsT_end (by omega)]; exact ⟨fun _ => rfl, fun h => absurd rfl h⟩
  | succ f ih =>
    intro l h
    by_cases h3 : l.length = 0
    · rw [kidsT_end h3]; exact ⟨fun _ => rfl, fun h => absurd rfl h⟩
    · by_cases h4 : (rd l).code = 0
      · obtain ⟨t, sz, e1, e2, e3⟩ := (hr l).1 h4
        have ih' := ih (l.drop sz) (by rw [List.length_drop]; omega)
        rw [kidsT_step hr h3 e1]
        by_cases h5 : (kidsT rd (l.drop sz)).code = 0
        · rw [joinT_ok h5]; exact ⟨fun _ => rfl, fun h => absurd rfl h⟩
        · rw [joinT_bad h5]
          have := ih'.2 h5
          rw [List.length_drop] at this
          exact ⟨fun h => absurd h h5, fun _ => ⟨by simp only [TR.bad]; omega, this.2⟩⟩
      · rw [kidsT_bad h3 h4]
        exact ⟨fun h => absurd h h4, fun _ => ⟨((hr l).2 h4).1, ((hr l).2 h4).2.2.2⟩⟩
/-- The tree at the beginning, its header being known. -/
def rTH (rd : List UInt8 → TR) (l : List UInt8) (h : Hd) : TR :=
  if h.code ≠ 0 then .bad h.code h.off
  else if l.length < h.size + h.len then .bad 1 l.length
  else if h.k = false then ⟨[.mk h.c h.n false ((l.drop h.size).take h.len) []], h.size + h.len, 0, 0⟩
  else if (kidsT rd ((l.drop h.size).take h.len)).code ≠ 0 then .bad (kidsT rd ((l.drop h.size).take h.len)).code (h.size + (kidsT rd ((l.drop h.size).take h.len)).off)
  else ⟨[.mk h.c h.n true [] (kidsT rd ((l.drop h.size).take h.len)).l], h.size + h.len, 0, 0⟩
/-- The tree at the beginning, within a depth. -/
def rT : Nat → List UInt8 → TR
  | 0, _ => .bad 5 0
  | d + 1, l => rTH (rT d) l (rhS l)
theorem rT_rd : ∀ d, RdT (rT d) := by
  intro d
  induction d with
  | zero => intro l; exact ⟨fun h => by simp [rT, TR.bad] at h, fun _ => by simp [rT, TR.bad]⟩
  | succ d ih =>
    intro l
    have hB := rhS_bounds l
    simp only [rT]
    generalize rhS l = h at hB ⊢
    obtain ⟨c1, c2, c3, c4, c5, c6, c7⟩ := hB
    unfold rTH
    by_cases k1 : h.code ≠ 0
    · rw [if_pos k1]
      exact ⟨fun h' => absurd h' k1, fun _ => ⟨by simp only [TR.bad]; omega, rfl, rfl, by simp only [TR.bad]; omega⟩⟩
    rw [if_neg k1]
    have c1' := c1 (Decidable.not_not.1 k1)
    by_cases k2 : l.length < h.size + h.len
    · rw [if_pos k2]
      exact ⟨fun h' => by simp [TR.bad] at h', fun _ => by simp [TR.bad]⟩
    rw [if_neg k2]
    by_cases k3 : h.k = false
    · rw [if_pos k3]
      exact ⟨fun _ => ⟨_, _, rfl, by omega, by omega⟩, fun h' => by simp at h'⟩
    rw [if_neg k3]
    have hK := kidsT_facts ih _ ((l.drop h.size).take h.len) (Nat.le_refl _)
    have hl : ((l.drop h.size).take h.len).length = h.len := by rw [List.length_take, List.length_drop]; omega
    rw [hl] at hK
    by_cases k4 : (kidsT (rT d) ((l.drop h.size).take h.len)).code ≠ 0
    · rw [if_pos k4]
      have := hK.2 k4
      exact ⟨fun h' => absurd h' k4, fun _ => ⟨by simp only [TR.bad]; omega, rfl, rfl, this.2⟩⟩
    · rw [if_neg k4]
      exact ⟨fun _ => ⟨_, _, rfl, by omega, by omega⟩, fun h' => by simp at h'⟩
/-- What Read gives. -/
def ndZ : AV := .agg [iv 0, iv 0, bv false, nilA, nilA]
def trN (t : Tr) : AV := .agg ((t.cells true).map AV.d)
def rtA (r : TR) : AV := match r with
  | ⟨t :: _, sz, 0, _⟩ => .tup [trN t, iv sz, erA 0 0]
  | r => .tup [ndZ, iv 0, erA r.code r.off]
theorem rtA_ok (t : Tr) (sz : Nat) : rtA ⟨[t], sz, 0, 0⟩ = .tup [trN t, iv sz, erA 0 0] := rfl
theorem rtA_bad {r : TR} (h : r.code ≠ 0) : rtA r = .tup [ndZ, iv 0, erA r.code r.off] := by
  obtain ⟨l, s, c, o⟩ := r
  cases c with
  | zero => exact absurd rfl h
  | succ c => cases l <;> rfl
end Go.Proofs.YtblabcopgeobgaaGreatDoor

/- The reference's Read. No condition but sizes that memory bears. -/
namespace Go.Proofs.YtblabcopgeobgaaGreatDoor
open Go.RowKit
set_option maxRecDepth 100000
set_option maxHeartbeats 8000000

abbrev trC : Tr → List D := Tr.cells true
theorem rRead_kids (l : List UInt8) (hb : l.length ≤ 1000000000) (d cc nn ll sz off : Nat) (hd : d < 1000) (hsz : 2 ≤ sz) (h3 : sz + ll ≤ l.length)
    (hN : ACalls Tryz.prog 121 [.d (bytesD false l)] (fun r => r = .tup [.agg [iv cc, iv nn, bv true, iv ll, iv sz], .d (bytesD false ((l.drop sz).take ll)), .d (bytesD false (l.drop (sz + ll))), erA 0 0]))
    (ih : ∀ m : List UInt8, m.length ≤ 1000000000 → ACalls Tryz.prog 93 [.d (bytesD false m), iv d] (fun r => r = rtA (rT d m))) :
    ACalls Tryz.prog 93 [.d (bytesD false l), iv (d + 1 : Nat)] (fun r => r = rtA (rTH (rT d) l ⟨cc, nn, true, ll, sz, 0, off⟩)) := by
  have hRd := rT_rd d
  have hF : (kidsT (rT d) ((l.drop sz).take ll)).code ≠ 0 → rTH (rT d) l ⟨cc, nn, true, ll, sz, 0, off⟩ = .bad (kidsT (rT d) ((l.drop sz).take ll)).code (sz + (kidsT (rT d) ((l.drop sz).take ll)).off) := fun h => by
    unfold rTH
    rw [if_neg (fun x => x rfl), if_neg (show ¬ l.length < sz + ll by omega), if_neg (fun x => by cases x), if_pos h]
  have hO : (kidsT (rT d) ((l.drop sz).take ll)).code = 0 → rTH (rT d) l ⟨cc, nn, true, ll, sz, 0, off⟩ = ⟨[.mk cc nn true [] (kidsT (rT d) ((l.drop sz).take ll)).l], sz + ll, 0, 0⟩ := fun h => by
    unfold rTH
    rw [if_neg (fun x => x rfl), if_neg (show ¬ l.length < sz + ll by omega), if_neg (fun x => by cases x), if_neg (fun x => x h)]
  have hcl : ((l.drop sz).take ll).length = ll := by rw [List.length_take, List.length_drop]; omega
  generalize (l.drop sz).take ll = m at hF hO hN hcl
  generalize hK : kidsT (rT d) m = K0 at hF hO
  refine acalls_vc 97 _ tabOk mixed Tryz.func93 rfl (by kernel_rfl) rfl rfl rfl rfl fun W0 fp0 z0 => ?_
  (repeat' ((conv => whnf); first | refine NBr.no ?_ | refine NCall.eq (hN) (by first | rfl | (simp only [AV.gives, AV.give, un_bytesD]; first | done | rfl)) ?_)); (all_goals (conv => whnf))
  refine NLoop.goA [.b 11 4 1000 5 80] (fun z : Nat × List Tr => z.1 ≤ ll ∧ z.2.length ≤ z.1 ∧ (kidsT (rT d) (m.drop z.1)).code = K0.code ∧ (K0.code ≠ 0 → z.1 + (kidsT (rT d) (m.drop z.1)).off = K0.off) ∧ (K0.code = 0 → K0.l = z.2 ++ (kidsT (rT d) (m.drop z.1)).l)) (fun z => ll - z.1)
    (fun z => ⟨[(1, iv (d + 1 : Nat)), (4, .ptr 4 0), (6, .ptr 6 0), (7, .ptr 7 0), (8, .d (bytesD false m)), (11, .ptr 11 0), (12, iv z.1)], [(4, [iv 0, iv 0, bv false, nilA, nilA]), (6, [iv 0, iv 0]), (7, [iv cc, iv nn, bv true, iv ll, iv sz]), (11, [iv cc, iv nn, bv true, nilA, ownT 1000 5 80 trC z.2])], [(1000, (z.2.length, 5, 80))]⟩) (0, []) ⟨by simp, by simp, by rw [List.drop_zero, hK], fun _ => by rw [List.drop_zero, hK, Nat.zero_add], fun _ => by rw [List.drop_zero, hK]; rfl⟩ (by ((repeat' (first | exact trivial | exact leW_refl _ | refine And.intro ?_ ?_ | exact rfl)))) ?_
  · rintro ⟨p, acc⟩ ⟨hp, hacc, e1, e2, e3⟩
    simp only [] at hp hacc e1 e2 e3
    have hdl : (m.drop p).length = ll - p := by rw [List.length_drop, hcl]
    by_cases h5 : p < ll
    · have hne : (m.drop p).length ≠ 0 := by omega
      have hrec := ih (m.drop p) (by omega)
      by_cases h6 : (rT d (m.drop p)).code ≠ 0
      · rw [kidsT_bad hne h6] at e1 e2
        have h7 : K0.code ≠ 0 := by rw [← e1]; exact h6
        have e1' : (rT d (m.drop p)).code = K0.code := e1
        have e2' : p + (rT d (m.drop p)).off = K0.off := e2 h7
        rw [rtA_bad h6] at hrec
        have hof := ((hRd (m.drop p)).2 h6).1
        generalize rT d (m.drop p) = R at hrec e1' e2' h6 hof
        have hne0 : ¬ ((R.code : Nat) : Int) = 0 := by omega
        have hrec' : ACalls Tryz.prog 93 [.d (bytesD false (m.drop p)), iv d] (fun r => r = .tup [.agg [iv 0, iv 0, bv false, nilA, nilA], iv 0, .agg [iv R.code, iv R.off]]) := hrec
        rw [hF h7, rtA_bad (show (TR.bad K0.code (sz + K0.off)).code ≠ 0 from h7)]
        (repeat' ((conv => whnf); first | refine NCall.eq (hrec') (by first | rfl | (simp only [AV.gives, AV.give, D.un, uns_bytesL]; first | done | rfl)) ?_ | refine NInt.as (((d : Nat) : Int) ) ( (by rw [IntWalk.i64_in _ (by omega)]; omega)) ?_ | refine NSl.from (p) ?_ | (with_reducible refine NInt.i64 ?_) | refine NFact.go ⟨by decide +kernel, by kernel_rfl⟩ ?_ | (refine NBr.dec (fun hc hcP => ?_) (fun hc hcP => ?_) <;> try (exfalso; omega)) | (refine NBr.bne (fun hc hcP => ?_) (fun hc hcP => ?_) <;> try (exfalso; omega)))); (all_goals (conv => whnf))
        all_goals (refine NEnd.eq ?_; (repeat' (first | exact trivial | exact leW_refl _ | refine And.intro ?_ ?_ | exact rfl)); (all_goals (conv => whnf)))
        all_goals simp only [TR.bad]
        all_goals omega
      · obtain ⟨t, q, r1, r2, r3⟩ := (hRd (m.drop p)).1 (Decidable.not_not.1 h6)
        obtain ⟨c, n, k, b', ks⟩ := t
        rw [r1, rtA_ok] at hrec
        have hrec' : ACalls Tryz.prog 93 [.d (bytesD false (m.drop p)), iv d] (fun r => r = .tup [.agg [iv c, iv n, bv k, .d (bytesD true b'), .d (.sl true ks.length 5 (Tr.cellss true ks))], iv q, erA 0 0]) := hrec
        have hst := kidsT_step hRd hne r1
        rw [List.drop_drop] at hst
        have e1' : (kidsT (rT d) (m.drop (p + q))).code = K0.code := by
          rw [← e1, hst]
          by_cases h9 : (kidsT (rT d) (m.drop (p + q))).code = 0
          · rw [joinT_ok h9]; exact h9
          · rw [joinT_bad h9]; rfl
        have e2' : K0.code ≠ 0 → p + q + (kidsT (rT d) (m.drop (p + q))).off = K0.off := fun h => by
          rw [← e2 h, hst, joinT_bad (by rw [e1']; exact h)]; simp only [TR.bad]; omega
        have e3' : K0.code = 0 → K0.l = (acc ++ [Tr.mk c n k b' ks]) ++ (kidsT (rT d) (m.drop (p + q))).l := fun h => by
          rw [e3 h, hst, joinT_ok (by rw [e1']; exact h)]; simp
        clear hst r1 hrec e1 e2 e3
        rw [hdl] at r3
        (repeat' ((conv => whnf); first | refine NBr.no ?_ | refine NCall.eq (hrec') (by first | rfl | (simp only [AV.gives, AV.give, D.un, uns_bytesL]; first | done | rfl)) ?_ | refine NInt.as (((d : Nat) : Int) ) ( (by rw [IntWalk.i64_in _ (by omega)]; omega)) ?_ | refine NSl.from (p) ?_ | refine NApp.one trC (Tr.mk c n k b' ks) ?_ | (with_reducible refine NInt.i64 ?_) | (refine NBr.dec (fun hc hcP => ?_) (fun hc hcP => ?_) <;> try (exfalso; omega)))); (all_goals (conv => whnf))
        refine ⟨(p + q, acc ++ [Tr.mk c n k b' ks]), ⟨by simp only []; omega, by simp only [List.length_append, List.length_cons, List.length_nil] at *; omega, e1', e2', e3'⟩, by simp only []; omega, ?_⟩
        ((repeat' (first | exact trivial | exact leW_refl _ | refine And.intro ?_ ?_ | exact rfl)))
    · have h50 : (m.drop p).length = 0 := by omega
      rw [kidsT_end h50] at e1 e3
      have h7 : K0.code = 0 := e1.symm
      have h8 := e3 h7
      rw [hO h7, h8, List.append_nil, rtA_ok]
      (repeat' ((conv => whnf); first | (with_reducible refine NInt.i64 ?_) | refine NFact.go ⟨by decide +kernel, by kernel_rfl⟩ ?_ | (refine NBr.dec (fun hc hcP => ?_) (fun hc hcP => ?_) <;> try (exfalso; omega)))); (all_goals (conv => whnf))
      all_goals (refine NEnd.eq ?_; (repeat' (first | exact trivial | exact leW_refl _ | refine And.intro ?_ ?_ | exact rfl)); (all_goals (conv => whnf)))
      all_goals exact (Tr.cellss_eq true acc).symm
theorem rRead_any : ∀ (d : Nat) (l : List UInt8), d ≤ 1000 → l.length ≤ 1000000000 → ACalls Tryz.prog 93 [.d (bytesD false l), iv d] (fun r => r = rtA (rT d l)) := by
  intro d
  induction d with
  | zero =>
    intro l hd hb
    refine acalls_vc 97 _ tabOk mixed Tryz.func93 rfl (by kernel_rfl) rfl rfl rfl rfl fun W0 fp0 z0 => ?_
    (repeat' ((conv => whnf); refine NBr.yes ?_)); (all_goals (conv => whnf))
    all_goals (refine NEnd.eq ?_; (repeat' (first | exact leW_refl _ | refine And.intro ?_ ?_ | exact rfl)))
  | succ d ih =>
    intro l hd hb
    have hN := rNext_any l hb
    have hB := rhS_bounds l
    rw [rT]
    unfold rNextA at hN
    generalize rhS l = h at hN hB ⊢
    obtain ⟨c1, c2, c3, c4, c5, c6, c7⟩ := hB
    obtain ⟨cc, nn, kk, ll, sz, cd, of⟩ := h
    by_cases k1 : cd = 0
    · subst k1
      have c1' := c1 rfl
      rw [if_neg (fun x => x rfl)] at hN
      by_cases k2 : l.length < sz + ll
      · rw [if_pos k2] at hN
        rw [rTH, if_neg (fun x => x rfl), if_pos k2]
        refine acalls_vc 97 _ tabOk mixed Tryz.func93 rfl (by kernel_rfl) rfl rfl rfl rfl fun W0 fp0 z0 => ?_
        (repeat' ((conv => whnf); first | refine NBr.yes ?_ | refine NBr.no ?_ | refine NCall.eq (hN) (by first | rfl | (simp only [AV.gives, AV.give, un_bytesD]; first | done | rfl)) ?_ | refine NFact.go ⟨by decide +kernel, by kernel_rfl⟩ ?_)); (all_goals (conv => whnf))
        all_goals (refine NEnd.eq ?_; (repeat' (first | exact leW_refl _ | refine And.intro ?_ ?_ | exact rfl)))
      · rw [if_neg k2] at hN
        simp only [] at c1'
        cases kk with
        | false =>
          have e : rTH (rT d) l ⟨cc, nn, false, ll, sz, 0, of⟩ = ⟨[.mk cc nn false ((l.drop sz).take ll) []], sz + ll, 0, 0⟩ := by
            unfold rTH
            rw [if_neg (fun x => x rfl), if_neg k2, if_pos rfl]
          have hlm : ((l.drop sz).take ll).length ≤ 1000000000 := by rw [List.length_take]; omega
          have c4' : ll ≤ 2147483647 := c4
          rw [e, rtA_ok]
          have hN' : ACalls Tryz.prog 121 [.d (bytesD false l)] (fun r => r = .tup [.agg [iv cc, iv nn, bv false, iv ll, iv sz], .d (bytesD false ((l.drop sz).take ll)), .d (bytesD false (l.drop (sz + ll))), erA 0 0]) := hN
          generalize (l.drop sz).take ll = m at hN' hlm ⊢
          refine acalls_vc 97 _ tabOk mixed Tryz.func93 rfl (by kernel_rfl) rfl rfl rfl rfl fun W0 fp0 z0 => ?_
          (repeat' ((conv => whnf); first | refine NBr.yes ?_ | refine NBr.no ?_ | refine NCall.eq (hN') (by first | rfl | (simp only [AV.gives, AV.give, un_bytesD]; first | done | rfl)) ?_ | refine NApp.lit ([]) ?_ | (with_reducible refine NInt.i64 ?_) | refine NFact.go ⟨by decide +kernel, by kernel_rfl⟩ ?_)); (all_goals (conv => whnf))
          all_goals (refine NEnd.eq ?_; (repeat' (first | exact trivial | exact leW_refl _ | refine And.intro ?_ ?_ | exact rfl)))
        | true => exact rRead_kids l hb d cc nn ll sz of (by omega) c1'.1 (by omega) hN (fun m hm => ih m (by omega) hm)
    · rw [if_pos k1] at hN
      have k1' : ¬ ((cd : Nat) : Int) = 0 := by omega
      rw [rTH, if_pos k1, rtA_bad (show (TR.bad cd of).code ≠ 0 from k1)]
      have hN' : ACalls Tryz.prog 121 [.d (bytesD false l)] (fun r => r = .tup [hdA (.bad 0 0), nilA, nilA, .agg [iv cd, iv of]]) := hN
      refine acalls_vc 97 _ tabOk mixed Tryz.func93 rfl (by kernel_rfl) rfl rfl rfl rfl fun W0 fp0 z0 => ?_
      (repeat' ((conv => whnf); first | refine NBr.no ?_ | refine NCall.eq (hN') (by first | rfl | (simp only [AV.gives, AV.give, un_bytesD]; first | done | rfl)) ?_ | refine NFact.go ⟨by decide +kernel, by kernel_rfl⟩ ?_ | (refine NBr.bne (fun hc hcP => ?_) (fun hc hcP => ?_) <;> try (exfalso; omega)))); (all_goals (conv => whnf))
      all_goals (refine NEnd.eq ?_; (repeat' (first | exact leW_refl _ | refine And.intro ?_ ?_ | exact rfl)))
end Go.Proofs.YtblabcopgeobgaaGreatDoor

/- The reference's Within, Parse, Deep, Open, Bytes, Is. No condition but sizes that memory bears. -/
namespace Go.Proofs.YtblabcopgeobgaaGreatDoor
open Go.RowKit
set_option maxRecDepth 100000
set_option maxHeartbeats 8000000

/-- The tree that bytes consist of. -/
def wholeT (n : Nat) : TR → TR
  | ⟨t :: _, sz, 0, _⟩ => if sz < n then .bad 2 sz else ⟨[t], sz, 0, 0⟩
  | r => .bad r.code r.off
theorem wholeT_long {n sz : Nat} {t : Tr} (h : sz < n) : wholeT n ⟨[t], sz, 0, 0⟩ = .bad 2 sz := if_pos h
theorem wholeT_ok {n sz : Nat} {t : Tr} (h : ¬ sz < n) : wholeT n ⟨[t], sz, 0, 0⟩ = ⟨[t], sz, 0, 0⟩ := if_neg h
theorem wholeT_bad {n c o s : Nat} : wholeT n ⟨[], s, c, o⟩ = .bad c o := by cases c <;> rfl
def withinT (d : Nat) (b : List UInt8) : TR := wholeT b.length (rT d b)
theorem withinT_facts (d : Nat) (b : List UInt8) : ((withinT d b).code = 0 → ∃ t, withinT d b = ⟨[t], b.length, 0, 0⟩ ∧ rT d b = ⟨[t], b.length, 0, 0⟩) ∧ ((withinT d b).code ≠ 0 → (withinT d b).l = [] ∧ (withinT d b).size = 0 ∧ (withinT d b).off ≤ b.length) := by
  have hF := rT_rd d b
  unfold withinT
  generalize rT d b = r at hF ⊢
  by_cases h : r.code = 0
  · obtain ⟨t, sz, rfl, h1, h2⟩ := hF.1 h
    by_cases h3 : sz < b.length
    · rw [wholeT_long h3]; exact ⟨fun h => by simp [TR.bad] at h, fun _ => ⟨rfl, rfl, h2⟩⟩
    · have : sz = b.length := by omega
      subst this
      rw [wholeT_ok h3]; exact ⟨fun _ => ⟨t, rfl, rfl⟩, fun h => absurd rfl h⟩
  · obtain ⟨l, s, c, o⟩ := r
    obtain ⟨h1, h2, h3, h4⟩ := hF.2 h
    have h2 : l = [] := h2
    subst h2
    have h' : ¬ c = 0 := h
    rw [wholeT_bad]
    exact ⟨fun h => absurd h h', fun _ => ⟨rfl, rfl, h1⟩⟩
/-- The tree that is told where there is none. -/
def Tr.zero : Tr := .mk 0 0 false [] []
def TR.tree (r : TR) : Tr := r.l.headD .zero
def wtA (r : TR) : AV := .tup [trN r.tree, erA r.code r.off]
theorem within_any (d : Nat) (b : List UInt8) (hd : d ≤ 1000) (hb : b.length ≤ 1000000000) : ACalls Tryz.prog 67 [.d (bytesD false b), iv d] (fun r => r = wtA (withinT d b)) := by
  have hR := rRead_any d b hd hb
  have hF := rT_rd d b
  unfold withinT
  generalize rT d b = r at hR hF ⊢
  by_cases h : r.code = 0
  · obtain ⟨t, sz, rfl, h1, h2⟩ := hF.1 h
    obtain ⟨c, n, k, b', ks⟩ := t
    have hR' : ACalls Tryz.prog 93 [.d (bytesD false b), iv d] (fun r => r = .tup [.agg [iv c, iv n, bv k, .d (bytesD true b'), .d (.sl true ks.length 5 (Tr.cellss true ks))], iv sz, erA 0 0]) := hR
    by_cases h3 : sz < b.length
    · rw [wholeT_long h3]
      refine acalls_vc 30 _ tabOk mixed Tryz.func67 rfl (by kernel_rfl) rfl rfl rfl rfl fun W0 fp0 z0 => ?_
      (repeat' ((conv => whnf); first | refine NBr.yes ?_ | refine NCall.eq (hR') (by first | rfl | (simp only [AV.gives, AV.give, D.un, un_bytesD]; first | done | rfl)) ?_ | (refine NBr.dec (fun hc hcP => ?_) (fun hc hcP => ?_) <;> try (exfalso; omega)))); (all_goals (conv => whnf))
      all_goals (refine NEnd.eq ?_; (repeat' (first | exact trivial | exact leW_refl _ | refine And.intro ?_ ?_ | exact rfl)))
    · rw [wholeT_ok h3]
      refine acalls_vc 30 _ tabOk mixed Tryz.func67 rfl (by kernel_rfl) rfl rfl rfl rfl fun W0 fp0 z0 => ?_
      (repeat' ((conv => whnf); first | refine NBr.yes ?_ | refine NCall.eq (hR') (by first | rfl | (simp only [AV.gives, AV.give, D.un, un_bytesD]; first | done | rfl)) ?_ | refine NFact.go ⟨by decide +kernel, by kernel_rfl⟩ ?_ | (refine NBr.dec (fun hc hcP => ?_) (fun hc hcP => ?_) <;> try (exfalso; omega)))); (all_goals (conv => whnf))
      all_goals (refine NEnd.eq ?_; (repeat' (first | exact leW_refl _ | refine And.intro ?_ ?_ | exact rfl)))
  · obtain ⟨l, s, c, o⟩ := r
    obtain ⟨h1, h2, h3, h4⟩ := hF.2 h
    have h2 : l = [] := h2
    subst h2
    have h' : ¬ c = 0 := h
    have hR' : ACalls Tryz.prog 93 [.d (bytesD false b), iv d] (fun r => r = .tup [ndZ, iv 0, erA c o]) := by rw [rtA_bad h] at hR; exact hR
    rw [wholeT_bad]
    refine acalls_vc 30 _ tabOk mixed Tryz.func67 rfl (by kernel_rfl) rfl rfl rfl rfl fun W0 fp0 z0 => ?_
    (repeat' ((conv => whnf); first | refine NBr.no ?_ | refine NCall.eq (hR') (by first | rfl | (simp only [AV.gives, AV.give, D.un, un_bytesD]; first | done | rfl)) ?_ | refine NFact.go ⟨by decide +kernel, by kernel_rfl⟩ ?_ | (refine NBr.dec (fun hc hcP => ?_) (fun hc hcP => ?_) <;> try (exfalso; omega)))); (all_goals (conv => whnf))
    all_goals (refine NEnd.eq ?_; (repeat' (first | exact trivial | exact leW_refl _ | refine And.intro ?_ ?_ | exact rfl)))
/-- What is told of a tree's cells. -/
theorem trN_eq {t : Tr} {c n : Nat} {k : Bool} {b : List UInt8} {ks : List Tr} (h : t = .mk c n k b ks) : trN t = .agg [iv c, iv n, bv k, .d (bytesD true b), .d (.sl true ks.length 5 (Tr.cellss true ks))] := by subst h; rfl
def deepT (b : List UInt8) : Tr := (withinT 60 b).tree
theorem deep_any (b : List UInt8) (hb : b.length ≤ 1000000000) : ACalls Tryz.prog 42 [.d (bytesD false b)] (fun r => r = .tup [trN (deepT b), bv ((withinT 60 b).code == 0)]) := by
  have hR := within_any 60 b (by omega) hb
  unfold wtA at hR
  unfold deepT
  generalize hw : withinT 60 b = r at hR ⊢
  generalize ht : r.tree = t at hR ⊢
  obtain ⟨c, n, k, b', ks⟩ := t
  rw [trN_eq rfl] at hR ⊢
  refine acalls_vc 15 _ tabOk mixed Tryz.func42 rfl (by kernel_rfl) rfl rfl rfl rfl fun W0 fp0 z0 => ?_
  (repeat' ((conv => whnf); first | refine NCall.eq (hR) (by first | rfl | (simp only [AV.gives, AV.give, D.un, un_bytesD]; first | done | rfl)) ?_ | refine NFact.go ⟨by decide +kernel, by kernel_rfl⟩ ?_)); (all_goals (conv => whnf))
  all_goals (refine NEnd.eq ?_; (repeat' (first | exact trivial | exact leW_refl _ | refine And.intro ?_ ?_ | exact rfl)); (all_goals (conv => whnf)))
  all_goals exact beq_cast r.code 0
mutual
/-- A tree's encoding. -/
def Tr.enc : Tr → List UInt8
  | .mk c n k b ks => putS (UInt8.ofNat (idN c k n)) (b ++ Tr.encs ks)
def Tr.encs : List Tr → List UInt8
  | [] => []
  | s :: r => s.enc ++ Tr.encs r
end
mutual
/-- Classes and numbers that there are. -/
def Tr.ok : Tr → Prop
  | .mk c n _ _ ks => c ≤ 3 ∧ n ≤ 30 ∧ Tr.oks ks
def Tr.oks : List Tr → Prop
  | [] => True
  | s :: r => s.ok ∧ Tr.oks r
end
end Go.Proofs.YtblabcopgeobgaaGreatDoor

/- The reference's Object, ReadObject, Kid, Octets. No condition but sizes that memory bears. -/
namespace Go.Proofs.YtblabcopgeobgaaGreatDoor
open Go.RowKit
set_option maxRecDepth 100000
set_option maxHeartbeats 8000000

def Tr.v : Tr → List UInt8
  | .mk _ _ _ b _ => b
def Tr.ks : Tr → List Tr
  | .mk _ _ _ _ ks => ks
def Tr.n : Tr → Nat
  | .mk _ n _ _ _ => n
end Go.Proofs.YtblabcopgeobgaaGreatDoor

/- Elements in plain Lean: what is written is read, and what is read is written so. No condition but lengths that the length octets bear. -/
namespace Go.Proofs.YtblabcopgeobgaaGreatDoor
open Go.RowKit

theorem beV_minN (n : Nat) : beV (minN n) = n := by
  induction n using Nat.strongRecOn with
  | _ n ih =>
    by_cases h : n < 256
    · rw [minN_small h]; simp [beV]; omega
    · rw [minN_more h, beV_snoc, ih (n / 256) (by omega), UInt8.toNat_ofNat']; omega
theorem rlS_len (n : Nat) (hn : n ≤ 2147483647) (rest : List UInt8) : rlS (lenS n ++ rest) = (n, (lenS n).length, 0, 0) := by
  have hL := minN_len 3 n (by omega)
  by_cases h : n < 128
  · rw [lenS, if_pos h, minN_small (by omega), List.singleton_append, rlS_small (by rw [UInt8.toNat_ofNat']; omega), UInt8.toNat_ofNat', Nat.mod_eq_of_lt (by omega)]
    rfl
  · obtain ⟨y, s, e, hy⟩ := minN_head 3 n (by omega) (by omega)
    have hb : beV (y :: s) = n := by rw [← e, beV_minN]
    rw [e] at hL
    rw [List.length_cons] at hL
    have hk : (UInt8.ofNat (128 + (y :: s).length)).toNat = s.length + 1 + 128 := by rw [UInt8.toNat_ofNat', List.length_cons]; omega
    have ht : (y :: (s ++ rest)).take (s.length + 1) = y :: s := by simp
    rw [lenS, if_neg h, e, List.cons_append, List.cons_append, rlS_ok hk (by omega) (by omega) (by simp) (by rw [ht, hb]; omega), ht, hb]
    rfl
theorem rlS_inv {l : List UInt8} (h : (rlS l).2.2.1 = 0) : l.take (rlS l).2.1 = lenS (rlS l).1 := by
  cases l with
  | nil => simp [rlS] at h
  | cons x r =>
    have hx := x.toNat_lt
    by_cases h1 : x.toNat < 128
    · rw [rlS_small h1]
      show (x :: r).take 1 = lenS x.toNat
      rw [lenS, if_pos h1, minN_small (by omega), ofNat_self]; rfl
    by_cases h2 : x.toNat = 128 ∨ x.toNat > 132
    · rw [rlS_form (by omega) h2] at h; cases h
    by_cases h3 : r.length < x.toNat - 128
    · rw [rlS_short (by omega) (by omega) h3] at h; cases h
    cases r with
    | nil => simp at h3; omega
    | cons y s =>
      rw [List.length_cons] at h3
      obtain ⟨k, hk⟩ : ∃ k, x.toNat = k + 128 := ⟨x.toNat - 128, by omega⟩
      by_cases h4 : y.toNat = 0 ∨ beV ((y :: s).take k) < 128 ∨ beV ((y :: s).take k) > 2147483647
      · rw [rlS_bad hk (by omega) (by omega) (by omega) h4] at h; cases h
      · rw [rlS_ok hk (by omega) (by omega) (by omega) h4]
        obtain ⟨j, rfl⟩ : ∃ j, k = j + 1 := ⟨k - 1, by omega⟩
        rw [List.take_succ_cons] at h4 ⊢
        show (x :: y :: s).take (j + 1 + 1) = lenS (beV (y :: s.take j))
        rw [List.take_succ_cons, List.take_succ_cons, lenS, if_neg (by omega), (minN_beV y (by omega) j _ (by rw [List.length_take]; omega)).1, List.length_cons, List.length_take, show 128 + (min j s.length + 1) = x.toNat by omega, ofNat_self]
theorem idN_eq (c n : Nat) (k : Bool) : idN c k n = c * 64 + n + (if k then 32 else 0) := by unfold idN; cases k <;> simp <;> omega
theorem idB_toNat {c n : Nat} (k : Bool) (hc : c ≤ 3) (hn : n ≤ 30) : (UInt8.ofNat (idN c k n)).toNat = c * 64 + n + (if k then 32 else 0) := by
  have := idN_lt k hc hn
  rw [UInt8.toNat_ofNat', Nat.mod_eq_of_lt (by omega), idN_eq]
theorem rhS_put {c n : Nat} {k : Bool} (l rest : List UInt8) (hc : c ≤ 3) (hn : n ≤ 30) (hl : l.length ≤ 2147483647) : rhS (encS c n k l ++ rest) = ⟨c, n, k, l.length, (lenS l.length).length + 1, 0, 0⟩ := by
  have hx := idB_toNat k hc hn
  unfold encS putS
  generalize UInt8.ofNat (idN c k n) = x at hx
  rw [List.cons_append, List.append_assoc, rhS, rlS_len _ hl]
  cases k
  · simp only [Bool.false_eq_true, ite_false, Nat.add_zero] at hx
    rw [if_neg (by omega), if_pos rfl, show x.toNat / 64 = c by omega, show x.toNat % 32 = n by omega, show (x.toNat / 32 % 2 == 1) = false by rw [beq_eq_false_iff_ne]; omega]
  · simp only [ite_true] at hx
    rw [if_neg (by omega), if_pos rfl, show x.toNat / 64 = c by omega, show x.toNat % 32 = n by omega, show (x.toNat / 32 % 2 == 1) = true by rw [beq_iff_eq]; omega]
theorem rhS_inv {l : List UInt8} (h : (rhS l).code = 0) (hle : (rhS l).size + (rhS l).len ≤ l.length) : l.take ((rhS l).size + (rhS l).len) = encS (rhS l).c (rhS l).n (rhS l).k ((l.drop (rhS l).size).take (rhS l).len) := by
  cases l with
  | nil => simp [rhS, Hd.bad] at h
  | cons x r =>
    have hx := x.toNat_lt
    rw [rhS] at h hle ⊢
    by_cases h1 : x.toNat % 32 = 31
    · rw [if_pos h1] at h; simp [Hd.bad] at h
    rw [if_neg h1] at h hle ⊢
    by_cases h2 : (rlS r).2.2.1 = 0
    · rw [if_pos h2] at h hle ⊢
      have hi := rlS_inv h2
      simp only [List.length_cons] at hle ⊢
      rw [show (rlS r).2.1 + 1 + (rlS r).1 = (rlS r).2.1 + (rlS r).1 + 1 by omega, List.take_succ_cons, List.drop_succ_cons]
      have hlen : ((r.drop (rlS r).2.1).take (rlS r).1).length = (rlS r).1 := by rw [List.length_take, List.length_drop]; omega
      unfold encS putS
      rw [hlen, ← hi, ← List.take_add]
      congr 1
      apply UInt8.toNat_inj.1
      rw [idB_toNat _ (by omega) (by omega)]
      by_cases hb : x.toNat / 32 % 2 = 1
      · rw [show (x.toNat / 32 % 2 == 1) = true from beq_iff_eq.2 hb, if_pos rfl]; omega
      · rw [show (x.toNat / 32 % 2 == 1) = false from beq_eq_false_iff_ne.2 hb, if_neg (by simp)]; omega
    · rw [if_neg h2] at h; exact absurd h h2

/-- An element: class, number, constructed, contents. -/
structure Tv where
  c : Nat
  n : Nat
  k : Bool
  v : List UInt8
  deriving DecidableEq
def Tv.enc (t : Tv) : List UInt8 := encS t.c t.n t.k t.v
structure Tv.ok (t : Tv) : Prop where
  c : t.c ≤ 3
  n : t.n ≤ 30
  v : t.v.length ≤ 2147483647
def Tv.hd (t : Tv) : Nat := (lenS t.v.length).length + 1
theorem Tv.len (t : Tv) : t.enc.length = t.hd + t.v.length := by
  unfold Tv.enc Tv.hd encS putS
  rw [List.length_cons, List.length_append]; omega
theorem Tv.body (t : Tv) : t.enc.drop t.hd = t.v := by
  unfold Tv.enc Tv.hd encS putS
  rw [List.drop_succ_cons, List.drop_left]
theorem Tv.rh {t : Tv} (h : t.ok) (rest : List UInt8) : rhS (t.enc ++ rest) = ⟨t.c, t.n, t.k, t.v.length, t.hd, 0, 0⟩ := rhS_put t.v rest h.c h.n h.v
/-- The element at the beginning is the only one. -/
theorem Tv.inj {t u : Tv} (ht : t.ok) (hu : u.ok) {r s : List UInt8} (h : t.enc ++ r = u.enc ++ s) : t = u ∧ r = s := by
  have h1 := Tv.rh ht r
  have h2 := Tv.rh hu s
  rw [h] at h1
  rw [h1] at h2
  injection h2 with e1 e2 e3 e4 e5
  have hb : t.enc = u.enc := by
    have := congrArg (List.take t.enc.length) h
    rw [List.take_left, show t.enc.length = u.enc.length by rw [Tv.len, Tv.len]; omega, List.take_left] at this
    exact this
  have hv : t.v = u.v := by rw [← t.body, ← u.body, hb, show t.hd = u.hd from e5]
  obtain ⟨a, b, c, d⟩ := t
  obtain ⟨a', b', c', d'⟩ := u
  simp only at e1 e2 e3 hv
  subst e1 e2 e3 hv
  exact ⟨rfl, List.append_cancel_left h⟩
def Tv.el (at' : Nat) (t : Tv) : El := ⟨t.c, t.n, t.k, at', at' + t.hd, at' + t.enc.length⟩
/-- The element at a place. -/
theorem nxS_put {b pre rest : List UInt8} {t : Tv} {en : Nat} (ht : t.ok) (hb : b.take en = pre ++ (t.enc ++ rest)) (hen : en ≤ b.length) : nxS b pre.length en = ⟨t.el pre.length, 0, 0⟩ := by
  have hd : (b.drop pre.length).take (en - pre.length) = t.enc ++ rest := by
    rw [← List.drop_take, hb, List.drop_left]
  have hl : en = pre.length + (t.enc ++ rest).length := by
    have := congrArg List.length hb
    rw [List.length_take, List.length_append] at this; omega
  rw [List.length_append] at hl
  have hr := Tv.rh ht rest
  rw [← hd] at hr
  rw [nxS_ok hr rfl (by have := t.len; show t.hd + t.v.length ≤ _; omega)]
  simp only [Tv.el, Tv.len, Nat.add_assoc]
theorem nxS_inv {b : List UInt8} {at' en : Nat} (h1 : at' ≤ en) (h2 : en ≤ b.length) (h : (nxS b at' en).code = 0) : ∃ t : Tv, t.ok ∧ (nxS b at' en).x = t.el at' ∧ (b.drop at').take (en - at') = t.enc ++ (b.drop (at' + t.enc.length)).take (en - (at' + t.enc.length)) ∧ at' + t.enc.length ≤ en := by
  have hlen : ((b.drop at').take (en - at')).length = en - at' := by rw [List.length_take, List.length_drop]; omega
  have hB := rhS_bounds ((b.drop at').take (en - at'))
  unfold nxS at h ⊢
  by_cases k1 : (rhS ((b.drop at').take (en - at'))).code ≠ 0
  · rw [if_pos k1] at h; exact absurd h k1
  rw [if_neg k1] at h ⊢
  by_cases k2 : en - at' < (rhS ((b.drop at').take (en - at'))).size + (rhS ((b.drop at').take (en - at'))).len
  · rw [if_pos k2] at h; cases h
  rw [if_neg k2]
  have hi := rhS_inv (Decidable.not_not.1 k1) (by rw [hlen]; omega)
  have hb := hB.1 (Decidable.not_not.1 k1)
  generalize hL : (b.drop at').take (en - at') = L at hi hB hb k2 hlen ⊢
  generalize hh : rhS L = hd at hi hB hb k2 ⊢
  obtain ⟨-, c2, c3, c4, c5, c6, c7⟩ := hB
  have hv : ((L.drop hd.size).take hd.len).length = hd.len := by rw [List.length_take, List.length_drop]; omega
  refine ⟨⟨hd.c, hd.n, hd.k, (L.drop hd.size).take hd.len⟩, ⟨c6, c7, by rw [hv]; exact c4⟩, ?_, ?_, ?_⟩
  · have hl := congrArg List.length hi
    rw [List.length_take] at hl
    have hl2 := Tv.len ⟨hd.c, hd.n, hd.k, (L.drop hd.size).take hd.len⟩
    have hl3 : (Tv.enc ⟨hd.c, hd.n, hd.k, (L.drop hd.size).take hd.len⟩).length = hd.size + hd.len := by
      show (encS hd.c hd.n hd.k ((L.drop hd.size).take hd.len)).length = _
      omega
    have hl4 : Tv.hd ⟨hd.c, hd.n, hd.k, (L.drop hd.size).take hd.len⟩ = hd.size := by rw [hl3] at hl2; simp only [hv] at hl2; omega
    simp only [Tv.el, hl3, hl4, Nat.add_assoc]
  · have hl := congrArg List.length hi
    rw [List.length_take] at hl
    show L = encS hd.c hd.n hd.k ((L.drop hd.size).take hd.len) ++ (b.drop (at' + (encS hd.c hd.n hd.k ((L.drop hd.size).take hd.len)).length)).take (en - (at' + (encS hd.c hd.n hd.k ((L.drop hd.size).take hd.len)).length))
    rw [← hi, List.length_take]
    conv => lhs; rw [← List.take_append_drop (hd.size + hd.len) L]
    congr 1
    rw [← hL, List.drop_take, List.drop_drop, hL, show min (hd.size + hd.len) L.length = hd.size + hd.len by omega]
    congr 1
    omega
  · have hl := congrArg List.length hi
    rw [List.length_take] at hl
    show at' + (encS hd.c hd.n hd.k ((L.drop hd.size).take hd.len)).length ≤ en
    omega
/-- One element. -/
theorem oneS_put {t : Tv} (ht : t.ok) : oneS t.enc = ⟨t.el 0, 0, 0⟩ := by
  have h := nxS_put (b := t.enc) (pre := []) (rest := []) (en := t.enc.length) ht (by simp) (Nat.le_refl _)
  rw [List.length_nil] at h
  unfold oneS
  rw [h, if_neg]
  rintro ⟨-, h2⟩
  simp only [Tv.el] at h2
  omega
theorem oneS_inv {b : List UInt8} (h : (oneS b).code = 0) : ∃ t : Tv, t.ok ∧ oneS b = ⟨t.el 0, 0, 0⟩ ∧ b = t.enc := by
  have hF := (oneS_facts b).1 h
  unfold oneS at h hF ⊢
  by_cases k : (nxS b 0 b.length).code = 0 ∧ (nxS b 0 b.length).x.stop < b.length
  · rw [if_pos k] at h; cases h
  rw [if_neg k] at h hF ⊢
  obtain ⟨t, h1, h2, h3, h4⟩ := nxS_inv (Nat.zero_le _) (Nat.le_refl _) h
  have hs := hF.2.2.2.1
  rw [h2] at hs
  simp only [Tv.el, Nat.zero_add] at hs
  refine ⟨t, h1, ?_, ?_⟩
  · generalize nxS b 0 b.length = r at h h2 hF
    obtain ⟨x, c, o⟩ := r
    simp only at h h2 hF
    rw [h, h2, hF.2.2.2.2]
  · rw [List.drop_zero, Nat.sub_zero, List.take_length, hs, Nat.zero_add, Nat.sub_self, List.take_zero, List.append_nil] at h3
    exact h3
end Go.Proofs.YtblabcopgeobgaaGreatDoor
