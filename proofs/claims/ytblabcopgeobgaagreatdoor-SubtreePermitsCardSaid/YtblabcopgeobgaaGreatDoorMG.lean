/- MG: the texts Under UnderL Sub Gn Perm Awk18 LawUnder Fin LaidL, one behind the other. No condition but what each lemma says. -/
import Derived.Test.YtblabcopgeobgaaGreatDoorME
import Derived.Test.YtblabcopgeobgaaGreatDoorMD
import Derived.Test.YtblabcopgeobgaaGreatDoorRows
import Derived.Test.YtblabcopgeobgaaGreatDoorShelf
import Derived.Test.YtblabcopgeobgaaGreatDoorGd
import Derived.ProofKit
import Derived.LaidMore
import Derived.Lay
import Derived.OpenShut
import Derived.PinnedBridge
import Derived.Lib.LaidU8T
import Derived.Lib.LaidIn
import Derived.LaidHandle
import Derived.Stop.Joined
/- subtree.Under and the reference's: what lies under a name. Strings of at most 16777216 bytes. -/
namespace Go.Proofs.YtblabcopgeobgaaGreatDoor
open Go.RowKit

def sameS (a b : List UInt8) : Bool := a.map lowB == b.map lowB
def underS (n b : List UInt8) : Bool := b == [] || sameS n b || (decide (b.length < n.length) && (n[n.length - b.length - 1]? == some 46 && sameS (n.drop (n.length - b.length)) b))
theorem sameS_len {a b : List UInt8} (h : a.length ≠ b.length) : sameS a b = false := by
  unfold sameS
  rw [beq_eq_false_iff_ne]
  intro e
  have := congrArg List.length e
  simp at this; exact h this
abbrev sv (l : List UInt8) : AV := .d (.v (.string ⟨⟨l⟩⟩))
set_option maxRecDepth 100000 in
set_option maxHeartbeats 8000000 in
theorem same_any (a b : List UInt8) (ha : a.length ≤ 16777216) (hb : b.length ≤ 16777216) : ACalls Tryz.prog 48 [sv a, sv b] (fun r => r = bv (sameS a b)) := by
  have h1 := lower_any a ha
  have h2 := lower_any b hb
  by_cases h : a.length = b.length
  · refine acalls_vc 17 _ tabOk mixed Tryz.func48 rfl (by kernel_rfl) rfl rfl rfl rfl fun W0 fp0 z0 => ?_
    (repeat' ((conv => whnf); first | refine NBr.yes ?_ | refine NCall.eq (h1) (by rfl) ?_ | refine NCall.eq (h2) (by rfl) ?_ | (refine NBr.dec (fun hc hcP => ?_) (fun hc hcP => ?_) <;> try (exfalso; omega)))); (all_goals (conv => whnf))
    all_goals (refine NEnd.eq ?_; (repeat' (first | exact leW_refl _ | refine And.intro ?_ ?_ | exact rfl)))
  · rw [sameS_len h]
    refine acalls_vc 17 _ tabOk mixed Tryz.func48 rfl (by kernel_rfl) rfl rfl rfl rfl fun W0 fp0 z0 => ?_
    (repeat' ((conv => whnf); first | refine NBr.no ?_ | (refine NBr.dec (fun hc hcP => ?_) (fun hc hcP => ?_) <;> try (exfalso; omega)))); (all_goals (conv => whnf))
    all_goals (refine NEnd.eq ?_; (repeat' (first | exact leW_refl _ | refine And.intro ?_ ?_ | exact rfl)))
set_option maxRecDepth 100000 in
set_option maxHeartbeats 8000000 in
theorem under_any (n b : List UInt8) (hn : n.length ≤ 16777216) (hb : b.length ≤ 16777216) : ACalls Tryz.prog 25 [sv n, sv b] (fun r => r = bv (underS n b)) := by
  by_cases hb0 : b = []
  · subst hb0
    rw [show underS n [] = true by simp [underS]]
    refine acalls_vc 41 _ tabOk mixed Tryz.func25 rfl (by kernel_rfl) rfl rfl rfl rfl fun W0 fp0 z0 => ?_
    (repeat' ((conv => whnf); refine NBr.yes ?_)); (all_goals (conv => whnf))
    all_goals (refine NEnd.eq ?_; (repeat' (first | exact leW_refl _ | refine And.intro ?_ ?_ | exact rfl)))
  have hbe : (b == []) = false := by rw [beq_eq_false_iff_ne]; exact hb0
  have hS := same_any n b hn hb
  rcases (by omega : n.length = b.length ∨ n.length < b.length ∨ b.length < n.length) with h | h | h
  · rw [show underS n b = sameS n b by
      unfold underS; rw [hbe, show decide (b.length < n.length) = false by simp; omega]; simp]
    cases hs : sameS n b
    all_goals
      rw [hs] at hS
      refine acalls_vc 41 _ tabOk mixed Tryz.func25 rfl (by kernel_rfl) rfl rfl rfl rfl fun W0 fp0 z0 => ?_
      (repeat' ((conv => whnf); first | refine NBr.yes ?_ | refine NBr.no ?_ | refine NBr.neg (by assumption) ?_ | refine NCall.eq (hS) (by rfl) ?_ | (with_reducible refine NInt.i64 ?_) | (refine NBr.dec (fun hc hcP => ?_) (fun hc hcP => ?_) <;> try (exfalso; omega)))); (all_goals (conv => whnf))
      all_goals (refine NEnd.eq ?_; (repeat' (first | exact leW_refl _ | refine And.intro ?_ ?_ | exact rfl)))
  · rw [show underS n b = false by
      unfold underS; rw [hbe, sameS_len (by omega), show decide (b.length < n.length) = false by simp; omega]; simp]
    refine acalls_vc 41 _ tabOk mixed Tryz.func25 rfl (by kernel_rfl) rfl rfl rfl rfl fun W0 fp0 z0 => ?_
    (repeat' ((conv => whnf); first | refine NBr.no ?_ | refine NBr.neg (by assumption) ?_ | (with_reducible refine NInt.i64 ?_) | (refine NBr.dec (fun hc hcP => ?_) (fun hc hcP => ?_) <;> try (exfalso; omega)))); (all_goals (conv => whnf))
    all_goals (refine NEnd.eq ?_; (repeat' (first | exact leW_refl _ | refine And.intro ?_ ?_ | exact rfl)))
  · obtain ⟨m, hm⟩ : ∃ m, n.length = b.length + m + 1 := ⟨n.length - b.length - 1, by omega⟩
    obtain ⟨x, hx⟩ : ∃ x, n[m]? = some x := ⟨_, List.getElem?_eq_getElem (by omega)⟩
    have hU : underS n b = (x == 46 && sameS (n.drop (m + 1)) b) := by
      unfold underS
      rw [hbe, sameS_len (by omega), show decide (b.length < n.length) = true by simp; omega, show n.length - b.length - 1 = m by omega, hx, show n.length - b.length = m + 1 by omega]
      simp
    rw [hU]
    have he : (n.drop (m + 1)).take (n.length - (m + 1)) = n.drop (m + 1) := List.take_of_length_le (by rw [List.length_drop]; omega)
    have hT := same_any (n.drop (m + 1)) b (by rw [List.length_drop]; omega) hb
    rw [← he] at hT
    have hx2 := x.toNat_lt
    by_cases hx46 : x = 46
    · subst hx46
      rw [he] at hT
      rw [← he] at hT
      refine acalls_vc 41 _ tabOk mixed Tryz.func25 rfl (by kernel_rfl) rfl rfl rfl rfl fun W0 fp0 z0 => ?_
      (repeat' ((conv => whnf); first | refine NBr.yes ?_ | refine NBr.no ?_ | refine NBr.neg (by assumption) ?_ | refine NCall.eq (hT) (by rfl) ?_ | refine NIdxS.at hx ?_ | refine NSlS.bytes (m + 1) (n.length) ?_ | (with_reducible refine NInt.i64 ?_) | (refine NBr.dec (fun hc hcP => ?_) (fun hc hcP => ?_) <;> try (exfalso; omega)))); (all_goals (conv => whnf))
      all_goals (rw [he]; (refine NEnd.eq ?_; (repeat' (first | exact leW_refl _ | refine And.intro ?_ ?_ | exact rfl))))
    · have hxn : ((x.toNat : Int) == 46) = false := by
        rw [beq_eq_false_iff_ne]; intro e; exact hx46 (UInt8.toNat_inj.1 (by simpa using (by omega : x.toNat = 46)))
      rw [show (x == 46) = false by rw [beq_eq_false_iff_ne]; exact hx46]
      refine acalls_vc 41 _ tabOk mixed Tryz.func25 rfl (by kernel_rfl) rfl rfl rfl rfl fun W0 fp0 z0 => ?_
      (repeat' ((conv => whnf); first | refine NBr.yes ?_ | refine NBr.no ?_ | refine NBr.neg (by assumption) ?_ | refine NIdxS.at hx ?_ | (with_reducible refine NInt.i64 ?_) | (refine NBr.dec (fun hc hcP => ?_) (fun hc hcP => ?_) <;> try (exfalso; omega)))); (all_goals (conv => whnf))
      all_goals (refine NEnd.eq ?_; (repeat' (first | exact leW_refl _ | refine And.intro ?_ ?_ | exact rfl)))
end Go.Proofs.YtblabcopgeobgaaGreatDoor

/- Laws of what lies under a name. No condition. -/
namespace Go.Proofs.YtblabcopgeobgaaGreatDoor
open Go.RowKit

theorem sameS_cons (x y : UInt8) (a b : List UInt8) : sameS (x :: a) (y :: b) = (lowB x == lowB y && sameS a b) := by
  unfold sameS; rfl
theorem sameS_drop {a b : List UInt8} (h : sameS a b = true) (t : Nat) : sameS (a.drop t) (b.drop t) = true := by
  unfold sameS at *
  rw [beq_iff_eq] at *
  rw [List.map_drop, List.map_drop, h]
theorem sameS_refl (a : List UInt8) : sameS a a = true := by unfold sameS; simp
theorem sameS_trans {a b c : List UInt8} (h : sameS a b = true) (h' : sameS b c = true) : sameS a c = true := by
  unfold sameS at *; rw [beq_iff_eq] at *; exact h.trans h'
theorem sameS_length {a b : List UInt8} (h : sameS a b = true) : a.length = b.length := by
  unfold sameS at h; rw [beq_iff_eq] at h
  have := congrArg List.length h; simpa using this
theorem lowB_dot {x : UInt8} (h : lowB x = lowB 46) : x = 46 := by
  have h46 : lowB 46 = 46 := by decide
  rw [h46] at h
  unfold lowB at h
  split at h
  · rename_i c
    have := congrArg UInt8.toNat h
    rw [UInt8.toNat_ofNat'] at this
    have e : (46 : UInt8).toNat = 46 := rfl
    omega
  · exact h
theorem sameS_get {a b : List UInt8} (h : sameS a b = true) {i : Nat} {x y : UInt8} (hx : a[i]? = some x) (hy : b[i]? = some y) : lowB x = lowB y := by
  unfold sameS at h; rw [beq_iff_eq] at h
  have h1 : (a.map lowB)[i]? = some (lowB x) := by rw [List.getElem?_map, hx]; rfl
  have h2 : (b.map lowB)[i]? = some (lowB y) := by rw [List.getElem?_map, hy]; rfl
  rw [h, h2] at h1; exact (Option.some.inj h1).symm
theorem underS_iff {n b : List UInt8} : underS n b = true ↔ b = [] ∨ sameS n b = true ∨ ∃ m, n.length = b.length + m + 1 ∧ n[m]? = some 46 ∧ sameS (n.drop (m + 1)) b = true := by
  unfold underS
  simp only [Bool.or_eq_true, Bool.and_eq_true, beq_iff_eq, decide_eq_true_eq]
  constructor
  · rintro ((h | h) | ⟨h1, h2, h3⟩)
    · exact .inl h
    · exact .inr (.inl h)
    · refine .inr (.inr ⟨n.length - b.length - 1, by omega, h2, ?_⟩)
      rw [show n.length - b.length - 1 + 1 = n.length - b.length by omega]; exact h3
  · rintro (h | h | ⟨m, h1, h2, h3⟩)
    · exact .inl (.inl h)
    · exact .inl (.inr h)
    · refine .inr ⟨by omega, ?_, ?_⟩
      · rw [show n.length - b.length - 1 = m by omega]; exact h2
      · rw [show n.length - b.length = m + 1 by omega]; exact h3
theorem underS_refl (a : List UInt8) : underS a a = true := underS_iff.2 (.inr (.inl (sameS_refl a)))
theorem underS_nil (a : List UInt8) : underS a [] = true := underS_iff.2 (.inl rfl)
theorem underS_x (a : List UInt8) : underS ([120, 46] ++ a) a = true := by
  refine underS_iff.2 (.inr (.inr ⟨1, by simp, rfl, ?_⟩))
  exact sameS_refl a
theorem underS_trans {a b c : List UInt8} (h : underS a b = true) (h' : underS b c = true) : underS a c = true := by
  rcases underS_iff.1 h' with rfl | h' | ⟨m, k1, k2, k3⟩
  · exact underS_nil a
  · rcases underS_iff.1 h with rfl | h | ⟨p, l1, l2, l3⟩
    · have := sameS_length h'
      have : c = [] := List.length_eq_zero_iff.1 (by simpa using this.symm)
      subst this; exact underS_nil a
    · exact underS_iff.2 (.inr (.inl (sameS_trans h h')))
    · have := sameS_length h'
      exact underS_iff.2 (.inr (.inr ⟨p, by omega, l2, sameS_trans l3 h'⟩))
  · rcases underS_iff.1 h with rfl | h | ⟨p, l1, l2, l3⟩
    · simp at k2
    · have hl := sameS_length h
      obtain ⟨x, hx⟩ : ∃ x, a[m]? = some x := ⟨_, List.getElem?_eq_getElem (by omega)⟩
      have e := lowB_dot (sameS_get h hx k2)
      subst e
      exact underS_iff.2 (.inr (.inr ⟨m, by omega, hx, sameS_trans (sameS_drop h (m + 1)) k3⟩))
    · have e : ∀ t, (a.drop (p + 1)).drop t = a.drop (p + 1 + t) := fun t => by rw [List.drop_drop]
      obtain ⟨x, hx⟩ : ∃ x, (a.drop (p + 1))[m]? = some x := ⟨_, List.getElem?_eq_getElem (by rw [List.length_drop]; omega)⟩
      have e2 := lowB_dot (sameS_get l3 hx k2)
      subst e2
      refine underS_iff.2 (.inr (.inr ⟨p + 1 + m, by omega, ?_, ?_⟩))
      · rw [List.getElem?_drop] at hx; exact hx
      · have := sameS_trans (sameS_drop l3 (m + 1)) k3
        rw [e] at this
        rw [show p + 1 + m + 1 = p + 1 + (m + 1) by omega]; exact this
end Go.Proofs.YtblabcopgeobgaaGreatDoor

/- subtree: Valid, Marshal, Permits at one DNS name; what the law's awake asks. No condition. -/
namespace Go.Proofs.YtblabcopgeobgaaGreatDoor
open Go.RowKit

abbrev gnD (n : Nat) (l : List UInt8) : List D := [.v (.int .i64 n), .v (.string ⟨⟨[]⟩⟩), .v (.string ⟨⟨l⟩⟩), .v (.slice none 0 0), .v (.slice none 0 0), .v (.int .i64 0), .v (.string ⟨⟨[]⟩⟩), .v (.int .i64 0), .v (.string ⟨⟨[]⟩⟩)]
abbrev nilD : D := .v (.slice none 0 0)
set_option maxRecDepth 100000 in
set_option maxHeartbeats 8000000 in
theorem validList_txt {n : Nat} {l b : List UInt8} (h : TxOk n l b) : ACalls Tryz.prog 87 [.d (.sl false 1 9 (gnD n l))] (fun r => r = bv true) := by
  have h1 := marshalList_txt h
  refine acalls_vc 12 _ tabOk mixed Tryz.func87 rfl (by kernel_rfl) rfl rfl rfl rfl fun W0 fp0 z0 => ?_
  (repeat' ((conv => whnf); refine NCall.eq (h1) (by rfl) ?_)); (all_goals (conv => whnf))
  all_goals (refine NEnd.eq ?_; (repeat' (first | exact leW_refl _ | refine And.intro ?_ ?_ | exact rfl)))
set_option maxRecDepth 100000 in
set_option maxHeartbeats 8000000 in
theorem fitsL_txt {n : Nat} {l b : List UInt8} (h : TxOk n l b) : ACalls Tryz.prog 99 [.d (.sl false 1 9 (gnD n l))] (fun r => r = bv true) := by
  have h1 := validList_txt h
  refine acalls_vc 10 _ tabOk mixed Tryz.func99 rfl (by kernel_rfl) rfl rfl rfl rfl fun W0 fp0 z0 => ?_
  (repeat' ((conv => whnf); first | refine NBr.no ?_ | refine NCall.eq (h1) (by rfl) ?_)); (all_goals (conv => whnf))
  all_goals (refine NEnd.eq ?_; (repeat' (first | exact leW_refl _ | refine And.intro ?_ ?_ | exact rfl)))
set_option maxRecDepth 100000 in
set_option maxHeartbeats 8000000 in
theorem fitsL_nil : ACalls Tryz.prog 99 [.d nilD] (fun r => r = bv true) := by
  refine acalls_vc 10 _ tabOk mixed Tryz.func99 rfl (by kernel_rfl) rfl rfl rfl rfl fun W0 fp0 z0 => ?_
  (repeat' ((conv => whnf); refine NBr.yes ?_)); (all_goals (conv => whnf))
  all_goals (refine NEnd.eq ?_; (repeat' (first | exact leW_refl _ | refine And.intro ?_ ?_ | exact rfl)))
set_option maxRecDepth 100000 in
set_option maxHeartbeats 8000000 in
theorem subValid_txt {n : Nat} {l b : List UInt8} (h : TxOk n l b) : ACalls Tryz.prog 72 [.agg [.d (.sl false 1 9 (gnD n l)), .d nilD]] (fun r => r = bv true) := by
  have h1 := fitsL_txt h
  have h2 := fitsL_nil
  refine acalls_vc 24 _ tabOk mixed Tryz.func72 rfl (by kernel_rfl) rfl rfl rfl rfl fun W0 fp0 z0 => ?_
  (repeat' ((conv => whnf); first | refine NBr.yes ?_ | refine NCall.eq (h1) (by rfl) ?_ | refine NCall.eq (h2) (by rfl) ?_ | (with_reducible refine NInt.i64 ?_))); (all_goals (conv => whnf))
  all_goals (refine NEnd.eq ?_; (repeat' (first | exact leW_refl _ | refine And.intro ?_ ?_ | exact rfl)))
set_option maxRecDepth 100000 in
set_option maxHeartbeats 8000000 in
theorem subMarshal_txt {n : Nat} {l b : List UInt8} (h : TxOk n l b) : ACalls Tryz.prog 46 [.agg [.d (.sl false 1 9 (gnD n l)), .d nilD]] (fun r => r = .tup [ownB 0 5 (encS 0 16 true (encS 2 0 true (encS 0 16 true b))), iv 0]) := by
  have h0 := subValid_txt h
  have h1 : ACalls Tryz.prog 73 [.agg [iv n, .d (.v (.string ⟨⟨[]⟩⟩)), .d (.v (.string ⟨⟨l⟩⟩)), nilA, nilA, iv 0, .d (.v (.string ⟨⟨[]⟩⟩)), iv 0, .d (.v (.string ⟨⟨[]⟩⟩))]] (fun r => r = .tup [ownB 0 5 b, iv 0]) := marshal_txt h
  have hs := h.small
  have e1 : ∀ c n (x : List UInt8), x.length ≤ 200000 → (encS c n true x).length ≤ x.length + 10 := fun c n x hx => by
    have := lenS_len x.length (by omega)
    simp only [encS, putS, List.length_cons, List.length_append]; omega
  have l1 := e1 0 16 b (by omega)
  have l2 := e1 2 0 (encS 0 16 true b) (by omega)
  have h2 := seq_any [b] (by simp; omega) (by simp)
  rw [show [b].flatten = b by simp] at h2
  have h3 := wrap_any 2 0 true [encS 0 16 true b] (by omega) (by omega) (by simp; omega) (by simp)
  rw [show [encS 0 16 true b].flatten = encS 0 16 true b by simp] at h3
  have h4 := seq_any [encS 2 0 true (encS 0 16 true b)] (by simp; omega) (by simp)
  rw [show [encS 2 0 true (encS 0 16 true b)].flatten = encS 2 0 true (encS 0 16 true b) by simp] at h4
  refine acalls_vc 78 _ tabOk mixed Tryz.func46 rfl (by kernel_rfl) rfl rfl rfl rfl fun W0 fp0 z0 => ?_
  (repeat' ((conv => whnf); first | refine NBr.yes ?_ | refine NBr.no ?_ | refine NCall.eq (h0) (by rfl) ?_ | refine NIdx.at 0 ?_ | refine NIdx.at 1 ?_ | refine NCall.eq (h1) (by rfl) ?_ | refine NCall.eq (h2) (by first | rfl | (simp only [AV.gives, AV.give, D.un, D.uns, uns_bytesL, List.nil_append]; first | done | rfl)) ?_ | refine NCall.eq (h3) (by first | rfl | (simp only [AV.gives, AV.give, D.un, D.uns, uns_bytesL, List.nil_append]; first | done | rfl)) ?_ | refine NCall.eq (h4) (by first | rfl | (simp only [AV.gives, AV.give, D.un, D.uns, uns_bytesL, List.nil_append]; first | done | rfl)) ?_ | (refine Or.inr ?_) | (refine NApp.at 1 _ ?_) | (refine NLoop.rounds 3 ?_) | (with_reducible refine NInt.i64 ?_))); (all_goals (conv => whnf))
  all_goals (refine NEnd.eq ?_; (repeat' (first | exact trivial | exact leW_refl _ | refine And.intro ?_ ?_ | exact rfl)))
end Go.Proofs.YtblabcopgeobgaaGreatDoor

/- General names as data; the reference's tests of sizes. No condition but sizes that memory bears. -/
namespace Go.Proofs.YtblabcopgeobgaaGreatDoor
open Go.RowKit

/-- An attribute: object identifier, value. -/
structure Att where
  oid : List UInt8
  val : List UInt8
  deriving DecidableEq
/-- A general name. -/
structure Gn where
  k : Int
  oid : List UInt8
  tx : List UInt8
  by' : List UInt8
  nm : List (List Att)
  ak : Int
  av : List UInt8
  pk : Int
  pv : List UInt8
  deriving DecidableEq
abbrev sD (l : List UInt8) : D := .v (.string ⟨⟨l⟩⟩)
abbrev iD (n : Int) : D := .v (.int .i64 n)
def atC (a : Att) : List D := [sD a.oid, bytesD false a.val]
def rdnD (r : List Att) : D := tabD false 2 atC r
def rdnC (r : List Att) : List D := [rdnD r]
def nameD (n : List (List Att)) : D := tabD false 1 rdnC n
def gnC (g : Gn) : List D := [iD g.k, sD g.oid, sD g.tx, bytesD false g.by', nameD g.nm, iD g.ak, sD g.av, iD g.pk, sD g.pv]
def gnsD (l : List Gn) : D := tabD false 9 gnC l
theorem atC_uns (a : Att) : D.uns (atC a) = atC a := by simp only [atC, D.uns, un_bytesD, D.un]
theorem un_rdnD (r : List Att) : (rdnD r).un = rdnD r := un_tab atC_uns false 2 r
theorem rdnC_uns (r : List Att) : D.uns (rdnC r) = rdnC r := by simp only [rdnC, D.uns, un_rdnD]
theorem un_nameD (n : List (List Att)) : (nameD n).un = nameD n := un_tab rdnC_uns false 1 n
theorem gnC_uns (g : Gn) : D.uns (gnC g) = gnC g := by simp only [gnC, D.uns, un_bytesD, un_nameD, D.un]
theorem un_gnsD (l : List Gn) : (gnsD l).un = gnsD l := un_tab gnC_uns false 9 l
theorem un_atC (a : Att) : D.uns (atC a) = atC a := atC_uns a
abbrev atA (a : Att) : AV := .agg [.d (sD a.oid), .d (bytesD false a.val)]
abbrev gnA (g : Gn) : AV := .agg [iv g.k, .d (sD g.oid), .d (sD g.tx), .d (bytesD false g.by'), .d (nameD g.nm), iv g.ak, .d (sD g.av), iv g.pk, .d (sD g.pv)]
/-- Lengths that memory bears. -/
def big : Nat := 9223372036854775807
structure Att.ok (a : Att) : Prop where
  o : a.oid.length ≤ big
  v : a.val.length ≤ big
structure Gn.ok (g : Gn) : Prop where
  o : g.oid.length ≤ big
  t : g.tx.length ≤ big
  b : g.by'.length ≤ big
  n : g.nm.length ≤ big ∧ ∀ r ∈ g.nm, r.length ≤ big ∧ ∀ a ∈ r, a.ok
  a : g.av.length ≤ big
  p : g.pv.length ≤ big

def fewAt (a : Att) : Bool := decide (a.oid.length ≤ 200) && decide (a.val.length ≤ 1000)
def vals (r : List Att) : Nat := (r.map fun a => a.val.length).sum
def fewRdn (r : List Att) : Bool := (r.take 10).all fewAt && (decide (r.length ≤ 8) && decide (vals (r.take 10) ≤ 2000))
theorem sum_snoc {α : Type} (f : α → Nat) {l : List α} {i : Nat} {x : α} (h : l[i]? = some x) : ((l.take (i + 1)).map f).sum = ((l.take i).map f).sum + f x := by
  obtain ⟨hlt, he⟩ := List.getElem?_eq_some_iff.1 h
  rw [List.take_succ_eq_append_getElem hlt, he, List.map_append, List.sum_append]; simp
theorem all_snoc {α : Type} (f : α → Bool) {l : List α} {i : Nat} {x : α} (h : l[i]? = some x) : (l.take (i + 1)).all f = ((l.take i).all f && f x) := by
  obtain ⟨hlt, he⟩ := List.getElem?_eq_some_iff.1 h
  rw [List.take_succ_eq_append_getElem hlt, he, List.all_append]; simp
theorem sum_le {α : Type} (f : α → Nat) (m : Nat) (l : List α) (h : ∀ x ∈ l, f x ≤ m) : (l.map f).sum ≤ l.length * m := by
  induction l with
  | nil => simp
  | cons x r ih =>
    have h1 := h x (by simp)
    have h2 := ih fun y hy => h y (by simp [hy])
    simp only [List.map_cons, List.sum_cons, List.length_cons, Nat.add_mul]
    omega
theorem all_cut {α : Type} (f : α → Bool) {l : List α} {i m : Nat} {x : α} (h : l[i]? = some x) (hm : i < m) (hx : f x = false) : (l.take m).all f = false := by
  rw [List.all_eq_false]
  refine ⟨x, ?_, by simp [hx]⟩
  have : (l.take m)[i]? = some x := by rw [List.getElem?_take_of_lt hm]; exact h
  exact List.mem_of_getElem? this
theorem any_snoc {α : Type} (f : α → Bool) {l : List α} {i : Nat} {x : α} (h : l[i]? = some x) : (l.take (i + 1)).any f = ((l.take i).any f || f x) := by
  obtain ⟨hlt, he⟩ := List.getElem?_eq_some_iff.1 h
  rw [List.take_succ_eq_append_getElem hlt, he, List.any_append]; simp
theorem any_at {α : Type} (f : α → Bool) {l : List α} {i : Nat} {x : α} (h : l[i]? = some x) (hx : f x = true) : l.any f = true := List.any_eq_true.2 ⟨x, List.mem_of_getElem? h, hx⟩
set_option maxRecDepth 100000 in
set_option maxHeartbeats 8000000 in
theorem rFewAt_any (a : Att) (h : a.ok) : ACalls Tryz.prog 123 [atA a] (fun r => r = bv (fewAt a)) := by
  have h1 := h.o
  have h2 := h.v
  unfold big at h1 h2
  unfold fewAt
  refine acalls_vc 13 _ tabOk mixed Tryz.func123 rfl (by kernel_rfl) rfl rfl rfl rfl fun W0 fp0 z0 => ?_
  (repeat' ((conv => whnf); first | refine NBr.yes ?_ | refine NBr.no ?_ | (refine NBr.dec (fun hc hcP => ?_) (fun hc hcP => ?_) <;> try (exfalso; omega)))); (all_goals (conv => whnf))
  all_goals (refine NEnd.eq ?_; (repeat' (first | refine And.intro ?_ ?_ | exact rfl)); (all_goals (conv => whnf)))
  all_goals (apply Bool.eq_iff_iff.2; simp only [Bool.and_eq_true, decide_eq_true_eq, Bool.false_eq_true, false_iff]; omega)
end Go.Proofs.YtblabcopgeobgaaGreatDoor

/- subtree.Permits: which DNS names are permitted. Sizes that memory bears. -/
namespace Go.Proofs.YtblabcopgeobgaaGreatDoor
open Go.RowKit

def hitS (nm : List UInt8) (g : Gn) : Bool := g.k == 2 && underS nm g.tx
def dnsS (g : Gn) : Bool := g.k == 2
def permS (P E : List Gn) (nm : List UInt8) : Bool := !(E.any (hitS nm)) && (P.any (hitS nm) || !(P.any dnsS))
structure LOk (l : List Gn) : Prop where
  n : l.length ≤ 1000000000
  t : ∀ g ∈ l, g.tx.length ≤ 16777216
set_option maxRecDepth 100000 in
set_option maxHeartbeats 8000000 in
theorem permits_any (P E : List Gn) (nm : List UInt8) (hP : LOk P) (hE : LOk E) (hn : nm.length ≤ 16777216) : ACalls Tryz.prog 27 [.agg [.d (gnsD P), .d (gnsD E)], sv nm] (fun r => r = bv (permS P E nm)) := by
  have hP1 := hP.n
  have hE1 := hE.n
  refine acalls_vc 48 _ tabOk mixed Tryz.func27 rfl (by kernel_rfl) rfl rfl rfl rfl fun W0 fp0 z0 => ?_
  (all_goals (conv => whnf))
  refine NLoop.go (fun i : Nat => i ≤ E.length ∧ (E.take i).any (hitS nm) = false) (fun i => E.length - i) (fun i => ⟨[(1, sv nm), (2, .ptr 2 0), (12, .d (gnsD E)), (13, iv E.length), (14, iv i)], [(2, [.d (gnsD P), .d (gnsD E)])], []⟩) 0 ⟨by omega, rfl⟩ (by ((repeat' (first | exact trivial | exact leW_refl _ | refine And.intro ?_ ?_)))) ?_
  rintro i ⟨hi, ha⟩
  by_cases hik : i < E.length
  · obtain ⟨g, hg⟩ : ∃ p, E[i]? = some p := ⟨_, List.getElem?_eq_getElem hik⟩
    have hU := under_any nm g.tx hn (hE.t g (List.mem_of_getElem? hg))
    cases hk : (g.k == 2)
    · have hs : hitS nm g = false := by unfold hitS; rw [hk]; rfl
      (repeat' ((conv => whnf); first | refine NBr.no ?_ | refine NBr.neg (by assumption) ?_ | refine NIdx.tab (fun _ => rfl) hg ?_ | (with_reducible refine NInt.i64 ?_) | (refine NBr.dec (fun hc hcP => ?_) (fun hc hcP => ?_) <;> try (exfalso; omega)))); (all_goals (conv => whnf))
      refine ⟨i + 1, ⟨by omega, by rw [any_snoc _ hg, ha, hs]; rfl⟩, by omega, ?_⟩
      ((repeat' (first | exact trivial | exact leW_refl _ | refine And.intro ?_ ?_)))
    · have hs : hitS nm g = underS nm g.tx := by unfold hitS; rw [hk]; rfl
      cases hu : underS nm g.tx
      · rw [hu] at hs hU
        (repeat' ((conv => whnf); first | refine NBr.yes ?_ | refine NBr.no ?_ | refine NBr.pos (by assumption) ?_ | refine NIdx.tab (fun _ => rfl) hg ?_ | refine NCall.eq (hU) (by rfl) ?_ | (with_reducible refine NInt.i64 ?_) | (refine NBr.dec (fun hc hcP => ?_) (fun hc hcP => ?_) <;> try (exfalso; omega)))); (all_goals (conv => whnf))
        refine ⟨i + 1, ⟨by omega, by rw [any_snoc _ hg, ha, hs]; rfl⟩, by omega, ?_⟩
        ((repeat' (first | exact trivial | exact leW_refl _ | refine And.intro ?_ ?_)))
      · rw [hu] at hs hU
        rw [show permS P E nm = false by unfold permS; rw [any_at _ hg hs]; rfl]
        (repeat' ((conv => whnf); first | refine NBr.yes ?_ | refine NBr.pos (by assumption) ?_ | refine NIdx.tab (fun _ => rfl) hg ?_ | refine NCall.eq (hU) (by rfl) ?_ | (refine NBr.dec (fun hc hcP => ?_) (fun hc hcP => ?_) <;> try (exfalso; omega)))); (all_goals (conv => whnf))
        all_goals (refine NEnd.eq ?_; (repeat' (first | exact leW_refl _ | refine And.intro ?_ ?_ | exact rfl)))
  · obtain rfl : i = E.length := by omega
    rw [List.take_length] at ha
    (repeat' ((conv => whnf); (refine NBr.dec (fun hc hcP => ?_) (fun hc hcP => ?_) <;> try (exfalso; omega)))); (all_goals (conv => whnf))
    refine NLoop.go (fun i : Nat => i ≤ P.length ∧ (P.take i).any (hitS nm) = false) (fun i => P.length - i) (fun i => ⟨[(1, sv nm), (7, bv ((P.take i).any dnsS)), (8, bv false), (29, .d (gnsD P)), (30, iv P.length), (31, iv i)], [], []⟩) 0 ⟨by omega, rfl⟩ (by ((repeat' (first | exact trivial | exact leW_refl _ | refine And.intro ?_ ?_)))) ?_
    rintro i ⟨hi, hb⟩
    by_cases hik : i < P.length
    · obtain ⟨g, hg⟩ : ∃ p, P[i]? = some p := ⟨_, List.getElem?_eq_getElem hik⟩
      have hU := under_any nm g.tx hn (hP.t g (List.mem_of_getElem? hg))
      have hne : (g.k != 2) = !(g.k == 2) := rfl
      cases hk : (g.k == 2)
      · have hs : hitS nm g = false := by unfold hitS; rw [hk]; rfl
        have hd : dnsS g = false := hk
        rw [hk] at hne
        replace hne : (g.k != 2) = true := hne
        (repeat' ((conv => whnf); first | refine NBr.pos (by assumption) ?_ | refine NIdx.tab (fun _ => rfl) hg ?_ | (with_reducible refine NInt.i64 ?_) | (refine NBr.dec (fun hc hcP => ?_) (fun hc hcP => ?_) <;> try (exfalso; omega)))); (all_goals (conv => whnf))
        refine ⟨i + 1, ⟨by omega, by rw [any_snoc _ hg, hb, hs]; rfl⟩, by omega, ?_⟩
        rw [any_snoc _ hg, hd, Bool.or_false]
        ((repeat' (first | exact trivial | exact leW_refl _ | refine And.intro ?_ ?_)))
      · have hs : hitS nm g = underS nm g.tx := by unfold hitS; rw [hk]; rfl
        have hd : dnsS g = true := hk
        rw [hk] at hne
        replace hne : (g.k != 2) = false := hne
        cases hu : underS nm g.tx
        · rw [hu] at hs hU
          (repeat' ((conv => whnf); first | refine NBr.no ?_ | refine NBr.neg (by assumption) ?_ | refine NIdx.tab (fun _ => rfl) hg ?_ | refine NCall.eq (hU) (by rfl) ?_ | (with_reducible refine NInt.i64 ?_) | (refine NBr.dec (fun hc hcP => ?_) (fun hc hcP => ?_) <;> try (exfalso; omega)))); (all_goals (conv => whnf))
          refine ⟨i + 1, ⟨by omega, by rw [any_snoc _ hg, hb, hs]; rfl⟩, by omega, ?_⟩
          rw [any_snoc _ hg, hd, Bool.or_true]
          ((repeat' (first | exact trivial | exact leW_refl _ | refine And.intro ?_ ?_)))
        · rw [hu] at hs hU
          rw [show permS P E nm = true by unfold permS; rw [any_at _ hg hs, ha]; rfl]
          (repeat' ((conv => whnf); first | refine NBr.yes ?_ | refine NBr.neg (by assumption) ?_ | refine NIdx.tab (fun _ => rfl) hg ?_ | refine NCall.eq (hU) (by rfl) ?_ | (refine NBr.dec (fun hc hcP => ?_) (fun hc hcP => ?_) <;> try (exfalso; omega)))); (all_goals (conv => whnf))
          all_goals (refine NEnd.eq ?_; (repeat' (first | exact leW_refl _ | refine And.intro ?_ ?_ | exact rfl)))
    · obtain rfl : i = P.length := by omega
      rw [List.take_length] at hb ⊢
      have hr : permS P E nm = !(P.any dnsS) := by unfold permS; rw [ha, hb]; rfl
      rw [hr]
      cases hd : P.any dnsS
      all_goals
        (repeat' ((conv => whnf); first | refine NBr.no ?_ | (refine NBr.dec (fun hc hcP => ?_) (fun hc hcP => ?_) <;> try (exfalso; omega)))); (all_goals (conv => whnf))
        all_goals (refine NEnd.eq ?_; (repeat' (first | exact leW_refl _ | refine And.intro ?_ ?_ | exact rfl)))
end Go.Proofs.YtblabcopgeobgaaGreatDoor

/- What chapter 18's laws ask before all else: the fixed example. -/
namespace Go.Proofs.YtblabcopgeobgaaGreatDoor
open Go.RowKit

theorem bytes_any (f : Bool) (g : Bool) (a b : List UInt8) (ha : a.length ≤ 1000000000) (hb : b.length ≤ 1000000000) : ACalls Tryz.prog 15 [.d (bytesD f a), .d (bytesD g b)] (fun r => r = bv (a == b)) := by
  refine acalls_vc 10 _ tabOk mixed Tryz.func15 rfl (by kernel_rfl) rfl rfl rfl rfl fun W0 fp0 z0 => ?_
  (repeat' ((conv => whnf); (with_reducible refine NStr.go ?_))); (all_goals (conv => whnf))
  all_goals (refine NEnd.eq ?_; (repeat' (first | exact leW_refl _ | refine And.intro ?_ ?_ | exact rfl)))
theorem encS_small (c n : Nat) (k : Bool) (l : List UInt8) (h : l.length < 128) : encS c n k l = UInt8.ofNat (idN c k n) :: UInt8.ofNat l.length :: l := by
  unfold encS putS lenS
  rw [if_pos h, minN_small (by omega)]; rfl
theorem txOk_a : TxOk 2 [97] [130, 1, 97] := by
  refine ⟨.inr (.inl rfl), by decide, by decide +kernel, ?_, ⟨2, by decide, by kernel_rfl, by decide +kernel⟩⟩
  rw [encS_small _ _ _ _ (by decide +kernel)]
  decide +kernel
theorem encS_a : encS 0 16 true (encS 2 0 true (encS 0 16 true [130, 1, 97])) = [48, 7, 160, 5, 48, 3, 130, 1, 97] := by
  rw [encS_small 0 16 true [130, 1, 97] (by decide), encS_small 2 0 true _ (by decide), encS_small 0 16 true _ (by decide)]
  decide
set_option maxRecDepth 100000 in
set_option maxHeartbeats 8000000 in
theorem awake18 : ACalls Tryz.prog 23 [] (fun r => r = bv true) := by
  have hM := subMarshal_txt txOk_a
  rw [encS_a] at hM
  have hB := bytes_any false false [48, 7, 160, 5, 48, 3, 130, 1, 97] [48, 7, 160, 5, 48, 3, 130, 1, 97] (by decide) (by decide)
  have p1 := permits_any [⟨2, [], [97], [], [], 0, [], 0, []⟩] [] [98, 46, 65] ⟨by decide, by decide⟩ ⟨by decide, by simp⟩ (by decide)
  have p2 := permits_any [⟨2, [], [97], [], [], 0, [], 0, []⟩] [] [98, 97] ⟨by decide, by decide⟩ ⟨by decide, by simp⟩ (by decide)
  have p3 := permits_any [⟨2, [], [97], [], [], 0, [], 0, []⟩] [] [98] ⟨by decide, by decide⟩ ⟨by decide, by simp⟩ (by decide)
  rw [show permS [⟨2, [], [97], [], [], 0, [], 0, []⟩] [] [98, 46, 65] = true by decide +kernel] at p1
  rw [show permS [⟨2, [], [97], [], [], 0, [], 0, []⟩] [] [98, 97] = false by decide +kernel] at p2
  rw [show permS [⟨2, [], [97], [], [], 0, [], 0, []⟩] [] [98] = false by decide +kernel] at p3
  refine acalls_vc 33 _ tabOk mixed Tryz.func23 rfl (by kernel_rfl) rfl rfl rfl rfl fun W0 fp0 z0 => ?_
  (repeat' ((conv => whnf); first | refine NBr.yes ?_ | (refine NCall.le (hM) ?_ ?_; focus ((repeat' (first | exact trivial | exact leW_refl _ | refine And.intro ?_ ?_)); done)) | (refine NCall.le (hB) ?_ ?_; focus ((repeat' (first | exact trivial | exact leW_refl _ | refine And.intro ?_ ?_)); done)) | (refine NCall.le (p1) ?_ ?_; focus ((repeat' (first | exact trivial | exact leW_refl _ | refine And.intro ?_ ?_ | exact rfl | exact Or.inr rfl | refine Or.inr ?_)); done)) | (refine NCall.le (p2) ?_ ?_; focus ((repeat' (first | exact trivial | exact leW_refl _ | refine And.intro ?_ ?_ | exact rfl | exact Or.inr rfl | refine Or.inr ?_)); done)) | (refine NCall.le (p3) ?_ ?_; focus ((repeat' (first | exact trivial | exact leW_refl _ | refine And.intro ?_ ?_ | exact rfl | exact Or.inr rfl | refine Or.inr ?_)); done)))); (all_goals (conv => whnf))
  all_goals (refine NEnd.eq ?_; (repeat' (first | exact leW_refl _ | refine And.intro ?_ ?_ | exact rfl)))
end Go.Proofs.YtblabcopgeobgaaGreatDoor

/- The law SubtreeUnder, walked. -/
namespace Go.Proofs.YtblabcopgeobgaaGreatDoor
open Go.RowKit

theorem gt_true {n : Nat} {k : Int} (h : (n : Int) > k) : decide ((n : Int) > k) = true := by simpa using h
theorem gt_false {n : Nat} {k : Int} (h : ¬ (n : Int) > k) : decide ((n : Int) > k) = false := by simpa using h
set_option maxRecDepth 100000 in
set_option maxHeartbeats 16000000 in
theorem lawUnder (a b c : List UInt8) (ha : a.length ≤ big) (hb : b.length ≤ big) (hc : c.length ≤ big) : ACalls Tryz.prog 6 [sv a, sv b, sv c] (fun r => r = bv true) := by
  have hA := awake18
  unfold big at ha hb hc
  by_cases h1 : (a.length : Int) > 300
  · have g1 := gt_true h1
    clear h1
    refine acalls_vc 55 _ tabOk mixed Tryz.func6 rfl (by kernel_rfl) rfl rfl rfl rfl fun W0 fp0 z0 => ?_
    (repeat' ((conv => whnf); first | refine NBr.yes ?_ | refine NBr.no ?_ | refine NBr.pos (by assumption) ?_ | refine NCall.eq (hA) (by rfl) ?_)); (all_goals (conv => whnf))
    all_goals (refine NEnd.eq ?_; (repeat' (first | exact leW_refl _ | refine And.intro ?_ ?_ | exact rfl)))
  have g1 := gt_false h1
  by_cases h2 : (b.length : Int) > 300
  · have g2 := gt_true h2
    clear h1 h2
    refine acalls_vc 55 _ tabOk mixed Tryz.func6 rfl (by kernel_rfl) rfl rfl rfl rfl fun W0 fp0 z0 => ?_
    (repeat' ((conv => whnf); first | refine NBr.yes ?_ | refine NBr.no ?_ | refine NBr.pos (by assumption) ?_ | refine NBr.neg (by assumption) ?_ | refine NCall.eq (hA) (by rfl) ?_)); (all_goals (conv => whnf))
    all_goals (refine NEnd.eq ?_; (repeat' (first | exact leW_refl _ | refine And.intro ?_ ?_ | exact rfl)))
  have g2 := gt_false h2
  by_cases h3 : (c.length : Int) > 300
  · have g3 := gt_true h3
    clear h1 h2 h3
    refine acalls_vc 55 _ tabOk mixed Tryz.func6 rfl (by kernel_rfl) rfl rfl rfl rfl fun W0 fp0 z0 => ?_
    (repeat' ((conv => whnf); first | refine NBr.no ?_ | refine NBr.pos (by assumption) ?_ | refine NBr.neg (by assumption) ?_ | refine NCall.eq (hA) (by rfl) ?_)); (all_goals (conv => whnf))
    all_goals (refine NEnd.eq ?_; (repeat' (first | exact leW_refl _ | refine And.intro ?_ ?_ | exact rfl)))
  have g3 := gt_false h3
  have u1 := under_any a a (by omega) (by omega)
  have u2 := under_any a [] (by omega) (by simp)
  have u3 := under_any ([120, 46] ++ a) a (by simp; omega) (by omega)
  have u4 := under_any a b (by omega) (by omega)
  have u5 := under_any b c (by omega) (by omega)
  have u6 := under_any a c (by omega) (by omega)
  have t := underS_trans (a := a) (b := b) (c := c)
  rw [underS_refl] at u1
  rw [underS_nil] at u2
  rw [underS_x] at u3
  have ha2 : a.length ≤ 300 := by omega
  clear h1 h2 h3
  cases e1 : underS a b
  · rw [e1] at u4
    refine acalls_vc 55 _ tabOk mixed Tryz.func6 rfl (by kernel_rfl) rfl rfl rfl rfl fun W0 fp0 z0 => ?_
    (repeat' ((conv => whnf); first | refine NBr.yes ?_ | refine NBr.no ?_ | refine NBr.neg (by assumption) ?_ | refine NCall.eq (hA) (by rfl) ?_ | refine NCall.eq (u1) (by rfl) ?_ | refine NCall.eq (u2) (by rfl) ?_ | refine NCall.eq (u3) (by rfl) ?_ | refine NCall.eq (u4) (by rfl) ?_ | refine NFact.go (by first | decide | omega | (simp only [List.length_cons, List.length_nil]; omega)) ?_)); (all_goals (conv => whnf))
    all_goals (refine NEnd.eq ?_; (repeat' (first | exact leW_refl _ | refine And.intro ?_ ?_ | exact rfl)))
  · cases e2 : underS b c
    · rw [e1] at u4
      rw [e2] at u5
      refine acalls_vc 55 _ tabOk mixed Tryz.func6 rfl (by kernel_rfl) rfl rfl rfl rfl fun W0 fp0 z0 => ?_
      (repeat' ((conv => whnf); first | refine NBr.yes ?_ | refine NBr.no ?_ | refine NBr.neg (by assumption) ?_ | refine NCall.eq (hA) (by rfl) ?_ | refine NCall.eq (u1) (by rfl) ?_ | refine NCall.eq (u2) (by rfl) ?_ | refine NCall.eq (u3) (by rfl) ?_ | refine NCall.eq (u4) (by rfl) ?_ | refine NCall.eq (u5) (by rfl) ?_ | refine NFact.go (by first | decide | omega | (simp only [List.length_cons, List.length_nil]; omega)) ?_)); (all_goals (conv => whnf))
      all_goals (refine NEnd.eq ?_; (repeat' (first | exact leW_refl _ | refine And.intro ?_ ?_ | exact rfl)))
    · rw [e1] at u4
      rw [e2] at u5
      rw [t e1 e2] at u6
      refine acalls_vc 55 _ tabOk mixed Tryz.func6 rfl (by kernel_rfl) rfl rfl rfl rfl fun W0 fp0 z0 => ?_
      (repeat' ((conv => whnf); first | refine NBr.yes ?_ | refine NBr.no ?_ | refine NBr.neg (by assumption) ?_ | refine NCall.eq (hA) (by rfl) ?_ | refine NCall.eq (u1) (by rfl) ?_ | refine NCall.eq (u2) (by rfl) ?_ | refine NCall.eq (u3) (by rfl) ?_ | refine NCall.eq (u4) (by rfl) ?_ | refine NCall.eq (u5) (by rfl) ?_ | refine NCall.eq (u6) (by rfl) ?_ | refine NFact.go (by first | decide | omega | (simp only [List.length_cons, List.length_nil]; omega)) ?_)); (all_goals (conv => whnf))
      all_goals (refine NEnd.eq ?_; (repeat' (first | exact leW_refl _ | refine And.intro ?_ ?_ | exact rfl)))
end Go.Proofs.YtblabcopgeobgaaGreatDoor

/- From a contract's result to a value. No condition. -/
namespace Go.Proofs.YtblabcopgeobgaaGreatDoor
open Go.RowKit

theorem res_bv {W : World} {fp z : Nat → Nat → Prop} {w' : World} {b : Bool} {v : Value} (h : ResOk W fp z w' (bv b) v) : v = .bool b := by
  obtain ⟨-, fp, gt, z, -, h, -⟩ := h
  cases h with
  | d h => cases h; rfl
theorem le_of_size {s : ByteArray} (h : s.size ≤ maxLen) : s.data.toList.length ≤ big := by
  have : s.data.toList.length = s.size := by simp
  rw [this]; exact h
end Go.Proofs.YtblabcopgeobgaaGreatDoor

/- What the listed variables give the walks, and a world in which they hold. No condition. -/
namespace Go.Proofs.YtblabcopgeobgaaGreatDoor
open Go.ChangeShapes Go.WideShapes Go.ChangeAt Go.RowKit

theorem own : ownKnob Tryz.prog.godebug = none := by kernel_rfl
def laidL : List (String × DataW Unit) := [("math/bits.deBruijn32tab", Rows.laid_math_bits_deBruijn32tab), ("math/bits.deBruijn64tab", Rows.laid_math_bits_deBruijn64tab), ("internal/strconv.uint64pow10", Rows.laid_internal_strconv_uint64pow10), ("unicode/utf8.acceptRanges", Rows.laid_unicode_utf8_acceptRanges), ("strconv.ErrRange", Rows.laid_strconv_ErrRange), ("strconv.ErrSyntax", Rows.laid_strconv_ErrSyntax), ("unicode/utf8.first", Rows.laid_unicode_utf8_first)]

set_option maxRecDepth 100000 in
theorem laid_met (os : Os) (args : Array Value) : laidMetH Tryz.prog laidL ((World.laidAll Tryz.prog os laidL).forCall (fun _ _ => 0) ⟨#[], args, []⟩).memory := by
  rw [MakeChecks.laidMetH_plain _ _ _ (by kernel_rfl)]
  exact laidMet_laidAll _ (by kernel_rfl) (by kernel_rfl)

set_option maxRecDepth 100000 in
theorem ifAt_of {w : World} {n nm : String} {d : DataW Unit} {g t : Nat} {ms : Array (String × TypeId)} (hg : Tryz.prog.globalNamed n = some g) (hty : (Tryz.prog.globals[g]?).map (·.type) = some t) (ht : Tryz.prog.underlying t = some (.interface ms)) (h : Lib.VarReads Tryz.prog w n (.iface nm d)) : IfAt g w := by
  obtain ⟨g', t', cs, fuel, p, e1, e2, e3, e4⟩ := h
  obtain rfl := Option.some.inj (hg.symm.trans e1)
  obtain rfl := Option.some.inj (hty.symm.trans e2)
  cases fuel with
  | zero => simp [DataW.trod] at e4
  | succ fuel =>
    obtain ⟨l⟩ := cs
    have hc := World.var?_cell hg e3 0
    match l, e4, hc with
    | [], e4, _ => simp [DataW.trod, ht] at e4
    | [v], e4, hc =>
      refine ⟨v, by simpa using hc, ?_⟩
      cases v <;> first | exact .inr ⟨_, _, rfl⟩ | (simp [DataW.trod, ht] at e4; done)
    | a :: b :: r, e4, _ => simp [DataW.trod, ht] at e4
theorem tabIs_of {w : World} {n : String} {k : IntKind} {zs : List Int} {g t e : TypeId} {m : Nat} (hg : Tryz.prog.globalNamed n = some g) (hty : (Tryz.prog.globals[g]?).map (·.type) = some t) (ht : Tryz.prog.underlying t = some (.array m e)) (he : Tryz.prog.underlying e = some (.int k)) (hce : Tryz.prog.cellsOf e = 1) (hct : Tryz.prog.cellsOf t = m) (h : Lib.VarReads Tryz.prog w n (Lib.tabData k zs)) : Lib.TabIs Tryz.prog w n k zs := by
  obtain ⟨g', t', cs, fuel, p, e1, e2, e3, e4⟩ := h
  obtain rfl := Option.some.inj (hg.symm.trans e1)
  obtain rfl := Option.some.inj (hty.symm.trans e2)
  unfold Lib.TabIs
  rw [e3, ← Lib.cells_of_tab ht he hce hct e4]
theorem accept_eq : (Rows.laid_unicode_utf8_acceptRanges : DataW Unit) = Lib.acceptData := by kernel_rfl
theorem pow_eq : (Rows.laid_internal_strconv_uint64pow10 : DataW Unit) = Lib.tabData .u64 Lib.pow10Tab := by kernel_rfl

set_option maxRecDepth 100000 in
theorem gd_of_laid {W : World} (h : laidMetH Tryz.prog laidL W) : Gd W := by
  rw [MakeChecks.laidMetH_plain _ _ _ (by kernel_rfl)] at h
  have r3 := Lib.laidMet.reads h (n := "internal/strconv.uint64pow10") (d := Rows.laid_internal_strconv_uint64pow10) (by simp [laidL])
  have r1 := Lib.laidMet.reads h (n := "unicode/utf8.acceptRanges") (d := Rows.laid_unicode_utf8_acceptRanges) (by simp [laidL])
  have r5 := Lib.laidMet.reads h (n := "strconv.ErrRange") (d := Rows.laid_strconv_ErrRange) (by simp [laidL])
  have r6 := Lib.laidMet.reads h (n := "strconv.ErrSyntax") (d := Rows.laid_strconv_ErrSyntax) (by simp [laidL])
  have r2 := Lib.laidMet.reads h (n := "unicode/utf8.first") (d := Rows.laid_unicode_utf8_first) (by simp [laidL])
  rw [accept_eq] at r1
  rw [pow_eq] at r3
  rw [show (Rows.laid_unicode_utf8_first : DataW Unit) = Lib.firstData from Pinned.utf8First_eq] at r2
  exact ⟨utf8Tabs_of_readsT (U8Types.of196 Tryz.laysValid) ⟨by kernel_rfl, by kernel_rfl, by kernel_rfl, by kernel_rfl, by kernel_rfl, by kernel_rfl, by kernel_rfl⟩ r2 r1,
    tabIs_of (g := 4) (t := 275) (e := 148) (m := 20) (by kernel_rfl) (by kernel_rfl) Tryz.underlying275 Tryz.underlying148 (by kernel_rfl) (by kernel_rfl) r3,
    ifAt_of (g := 2) (t := 189) (by kernel_rfl) (by kernel_rfl) Tryz.underlying189 r6,
    ifAt_of (g := 3) (t := 189) (by kernel_rfl) (by kernel_rfl) Tryz.underlying189 r5⟩
end Go.Proofs.YtblabcopgeobgaaGreatDoor
