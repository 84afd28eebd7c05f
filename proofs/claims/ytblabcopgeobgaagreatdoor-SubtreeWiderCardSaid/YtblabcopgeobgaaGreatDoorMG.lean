/- MG: the texts Under UnderL Sub Perm Awk18 LawUnder Fin LaidL, one behind the other. No condition but what each lemma says. -/
import Derived.Test.YtblabcopgeobgaaGreatDoorME
import Derived.Test.YtblabcopgeobgaaGreatDoorRows
import Derived.Test.YtblabcopgeobgaaGreatDoorShelf
import Derived.Test.YtblabcopgeobgaaGreatDoorGd
import Derived.ProofKit
import Derived.LaidMore
import Derived.Lay
import Derived.OpenShut
import Derived.PinnedBridge
import Derived.Lib.LaidU8T
import Derived.Lib.LaidIn
import Derived.LaidHandle
import Derived.Stop.Joined
import Derived.Shelf.Vars
import Derived.HandedShaped
/- subtree.Under and the reference's: what lies under a name. Strings of at most 16777216 bytes. -/
namespace Go.Proofs.YtblabcopgeobgaaGreatDoor
open Go.RowKit

def sameS (a b : List UInt8) : Bool := a.map lowB == b.map lowB
def underS (n b : List UInt8) : Bool := b == [] || sameS n b || (decide (b.length < n.length) && (n[n.length - b.length - 1]? == some 46 && sameS (n.drop (n.length - b.length)) b))
theorem sameS_len {a b : List UInt8} (h : a.length ≠ b.length) : sameS a b = false := by
  unfold sameS
  rw [beq_eq_false_iff_ne]
  intro e
  have := congrArg List.length e
  simp at this; exact h this
abbrev sv (l : List UInt8) : AV := .d (.v (.string ⟨⟨l⟩⟩))
set_option maxRecDepth 100000 in
set_option maxHeartbeats 8000000 in
theorem same_any (a b : List UInt8) (ha : a.length ≤ 16777216) (hb : b.length ≤ 16777216) : ACalls Tryz.prog 48 [sv a, sv b] (fun r => r = bv (sameS a b)) := by
  have h1 := lower_any a ha
  have h2 := lower_any b hb
  by_cases h : a.length = b.length
  · refine acalls_vc 17 _ tabOk mixed Tryz.func48 rfl (by kernel_rfl) rfl rfl rfl rfl fun W0 fp0 z0 => ?_
    (repeat' ((conv => whnf); first | refine NBr.yes ?_ | refine NCall.eq (h1) (by rfl) ?_ | refine NCall.eq (h2) (by rfl) ?_ | (refine NBr.dec (fun hc hcP => ?_) (fun hc hcP => ?_) <;> try (exfalso; omega)))); (all_goals (conv => whnf))
    all_goals (refine NEnd.eq ?_; (repeat' (first | exact leW_refl _ | refine And.intro ?_ ?_ | exact rfl)))
  · rw [sameS_len h]
    refine acalls_vc 17 _ tabOk mixed Tryz.func48 rfl (by kernel_rfl) rfl rfl rfl rfl fun W0 fp0 z0 => ?_
    (repeat' ((conv => whnf); first | refine NBr.no ?_ | (refine NBr.dec (fun hc hcP => ?_) (fun hc hcP => ?_) <;> try (exfalso; omega)))); (all_goals (conv => whnf))
    all_goals (refine NEnd.eq ?_; (repeat' (first | exact leW_refl _ | refine And.intro ?_ ?_ | exact rfl)))
set_option maxRecDepth 100000 in
set_option maxHeartbeats 8000000 in
theorem under_any (n b : List UInt8) (hn : n.length ≤ 16777216) (hb : b.length ≤ 16777216) : ACalls Tryz.prog 25 [sv n, sv b] (fun r => r = bv (underS n b)) := by
  by_cases hb0 : b = []
  · subst hb0
    rw [show underS n [] = true by simp [underS]]
    refine acalls_vc 41 _ tabOk mixed Tryz.func25 rfl (by kernel_rfl) rfl rfl rfl rfl fun W0 fp0 z0 => ?_
    (repeat' ((conv => whnf); refine NBr.yes ?_)); (all_goals (conv => whnf))
    all_goals (refine NEnd.eq ?_; (repeat' (first | exact leW_refl _ | refine And.intro ?_ ?_ | exact rfl)))
  have hbe : (b == []) = false := by rw [beq_eq_false_iff_ne]; exact hb0
  have hS := same_any n b hn hb
  rcases (by omega : n.length = b.length ∨ n.length < b.length ∨ b.length < n.length) with h | h | h
  · rw [show underS n b = sameS n b by
      unfold underS; rw [hbe, show decide (b.length < n.length) = false by simp; omega]; simp]
    cases hs : sameS n b
    all_goals
      rw [hs] at hS
      refine acalls_vc 41 _ tabOk mixed Tryz.func25 rfl (by kernel_rfl) rfl rfl rfl rfl fun W0 fp0 z0 => ?_
      (repeat' ((conv => whnf); first | refine NBr.yes ?_ | refine NBr.no ?_ | refine NBr.neg (by assumption) ?_ | refine NCall.eq (hS) (by rfl) ?_ | (with_reducible refine NInt.i64 ?_) | (refine NBr.dec (fun hc hcP => ?_) (fun hc hcP => ?_) <;> try (exfalso; omega)))); (all_goals (conv => whnf))
      all_goals (refine NEnd.eq ?_; (repeat' (first | exact leW_refl _ | refine And.intro ?_ ?_ | exact rfl)))
  · rw [show underS n b = false by
      unfold underS; rw [hbe, sameS_len (by omega), show decide (b.length < n.length) = false by simp; omega]; simp]
    refine acalls_vc 41 _ tabOk mixed Tryz.func25 rfl (by kernel_rfl) rfl rfl rfl rfl fun W0 fp0 z0 => ?_
    (repeat' ((conv => whnf); first | refine NBr.no ?_ | refine NBr.neg (by assumption) ?_ | (with_reducible refine NInt.i64 ?_) | (refine NBr.dec (fun hc hcP => ?_) (fun hc hcP => ?_) <;> try (exfalso; omega)))); (all_goals (conv => whnf))
    all_goals (refine NEnd.eq ?_; (repeat' (first | exact leW_refl _ | refine And.intro ?_ ?_ | exact rfl)))
  · obtain ⟨m, hm⟩ : ∃ m, n.length = b.length + m + 1 := ⟨n.length - b.length - 1, by omega⟩
    obtain ⟨x, hx⟩ : ∃ x, n[m]? = some x := ⟨_, List.getElem?_eq_getElem (by omega)⟩
    have hU : underS n b = (x == 46 && sameS (n.drop (m + 1)) b) := by
      unfold underS
      rw [hbe, sameS_len (by omega), show decide (b.length < n.length) = true by simp; omega, show n.length - b.length - 1 = m by omega, hx, show n.length - b.length = m + 1 by omega]
      simp
    rw [hU]
    have he : (n.drop (m + 1)).take (n.length - (m + 1)) = n.drop (m + 1) := List.take_of_length_le (by rw [List.length_drop]; omega)
    have hT := same_any (n.drop (m + 1)) b (by rw [List.length_drop]; omega) hb
    rw [← he] at hT
    have hx2 := x.toNat_lt
    by_cases hx46 : x = 46
    · subst hx46
      rw [he] at hT
      rw [← he] at hT
      refine acalls_vc 41 _ tabOk mixed Tryz.func25 rfl (by kernel_rfl) rfl rfl rfl rfl fun W0 fp0 z0 => ?_
      (repeat' ((conv => whnf); first | refine NBr.yes ?_ | refine NBr.no ?_ | refine NBr.neg (by assumption) ?_ | refine NCall.eq (hT) (by rfl) ?_ | refine NIdxS.at hx ?_ | refine NSlS.bytes (m + 1) (n.length) ?_ | (with_reducible refine NInt.i64 ?_) | (refine NBr.dec (fun hc hcP => ?_) (fun hc hcP => ?_) <;> try (exfalso; omega)))); (all_goals (conv => whnf))
      all_goals (rw [he]; (refine NEnd.eq ?_; (repeat' (first | exact leW_refl _ | refine And.intro ?_ ?_ | exact rfl))))
    · have hxn : ((x.toNat : Int) == 46) = false := by
        rw [beq_eq_false_iff_ne]; intro e; exact hx46 (UInt8.toNat_inj.1 (by simpa using (by omega : x.toNat = 46)))
      rw [show (x == 46) = false by rw [beq_eq_false_iff_ne]; exact hx46]
      refine acalls_vc 41 _ tabOk mixed Tryz.func25 rfl (by kernel_rfl) rfl rfl rfl rfl fun W0 fp0 z0 => ?_
      (repeat' ((conv => whnf); first | refine NBr.yes ?_ | refine NBr.no ?_ | refine NBr.neg (by assumption) ?_ | refine NIdxS.at hx ?_ | (with_reducible refine NInt.i64 ?_) | (refine NBr.dec (fun hc hcP => ?_) (fun hc hcP => ?_) <;> try (exfalso; omega)))); (all_goals (conv => whnf))
      all_goals (refine NEnd.eq ?_; (repeat' (first | exact leW_refl _ | refine And.intro ?_ ?_ | exact rfl)))
end Go.Proofs.YtblabcopgeobgaaGreatDoor

/- Laws of what lies under a name. No condition. -/
namespace Go.Proofs.YtblabcopgeobgaaGreatDoor
open Go.RowKit

end Go.Proofs.YtblabcopgeobgaaGreatDoor

/- subtree: Valid, Marshal, Permits at one DNS name; what the law's awake asks. No condition. -/
namespace Go.Proofs.YtblabcopgeobgaaGreatDoor
open Go.RowKit

abbrev nilD : D := .v (.slice none 0 0)
set_option maxRecDepth 100000 in
set_option maxHeartbeats 8000000 in
theorem validList_txt {n : Nat} {l b : List UInt8} (h : TxOk n l b) : ACalls Tryz.prog 87 [.d (gnsD [gnV n l])] (fun r => r = bv true) := by
  have h1 := marshalList_txt h
  refine acalls_vc 12 _ tabOk mixed Tryz.func87 rfl (by kernel_rfl) rfl rfl rfl rfl fun W0 fp0 z0 => ?_
  (repeat' ((conv => whnf); refine NCall.eq (h1) (by rfl) ?_)); (all_goals (conv => whnf))
  all_goals (refine NEnd.eq ?_; (repeat' (first | exact leW_refl _ | refine And.intro ?_ ?_ | exact rfl)))
set_option maxRecDepth 100000 in
set_option maxHeartbeats 8000000 in
theorem fitsL_txt {n : Nat} {l b : List UInt8} (h : TxOk n l b) : ACalls Tryz.prog 99 [.d (gnsD [gnV n l])] (fun r => r = bv true) := by
  have h1 := validList_txt h
  refine acalls_vc 10 _ tabOk mixed Tryz.func99 rfl (by kernel_rfl) rfl rfl rfl rfl fun W0 fp0 z0 => ?_
  (repeat' ((conv => whnf); first | refine NBr.no ?_ | refine NCall.eq (h1) (by rfl) ?_)); (all_goals (conv => whnf))
  all_goals (refine NEnd.eq ?_; (repeat' (first | exact leW_refl _ | refine And.intro ?_ ?_ | exact rfl)))
set_option maxRecDepth 100000 in
set_option maxHeartbeats 8000000 in
theorem fitsL_nil : ACalls Tryz.prog 99 [.d nilD] (fun r => r = bv true) := by
  refine acalls_vc 10 _ tabOk mixed Tryz.func99 rfl (by kernel_rfl) rfl rfl rfl rfl fun W0 fp0 z0 => ?_
  (repeat' ((conv => whnf); refine NBr.yes ?_)); (all_goals (conv => whnf))
  all_goals (refine NEnd.eq ?_; (repeat' (first | exact leW_refl _ | refine And.intro ?_ ?_ | exact rfl)))
set_option maxRecDepth 100000 in
set_option maxHeartbeats 8000000 in
theorem subValid_txt {n : Nat} {l b : List UInt8} (h : TxOk n l b) : ACalls Tryz.prog 72 [.agg [.d (gnsD [gnV n l]), .d nilD]] (fun r => r = bv true) := by
  have h1 := fitsL_txt h
  have h2 := fitsL_nil
  refine acalls_vc 24 _ tabOk mixed Tryz.func72 rfl (by kernel_rfl) rfl rfl rfl rfl fun W0 fp0 z0 => ?_
  (repeat' ((conv => whnf); first | refine NBr.yes ?_ | refine NCall.eq (h1) (by rfl) ?_ | refine NCall.eq (h2) (by rfl) ?_ | (with_reducible refine NInt.i64 ?_))); (all_goals (conv => whnf))
  all_goals (refine NEnd.eq ?_; (repeat' (first | exact leW_refl _ | refine And.intro ?_ ?_ | exact rfl)))
set_option maxRecDepth 100000 in
set_option maxHeartbeats 8000000 in
theorem subMarshal_txt {n : Nat} {l b : List UInt8} (h : TxOk n l b) : ACalls Tryz.prog 46 [.agg [.d (gnsD [gnV n l]), .d nilD]] (fun r => r = .tup [ownB 0 5 (encS 0 16 true (encS 2 0 true (encS 0 16 true b))), iv 0]) := by
  have h0 := subValid_txt h
  have h1 : ACalls Tryz.prog 73 [gnA (gnV n l)] (fun r => r = .tup [ownB 0 5 b, iv 0]) := marshal_txt h
  have hs := h.small
  have e1 : ∀ c n (x : List UInt8), x.length ≤ 200000 → (encS c n true x).length ≤ x.length + 10 := fun c n x hx => by
    have := lenS_len x.length (by omega)
    simp only [encS, putS, List.length_cons, List.length_append]; omega
  have l1 := e1 0 16 b (by omega)
  have l2 := e1 2 0 (encS 0 16 true b) (by omega)
  have h2 := seq_any [b] (by simp; omega) (by simp)
  rw [show [b].flatten = b by simp] at h2
  have h3 := wrap_any 2 0 true [encS 0 16 true b] (by omega) (by omega) (by simp; omega) (by simp)
  rw [show [encS 0 16 true b].flatten = encS 0 16 true b by simp] at h3
  have h4 := seq_any [encS 2 0 true (encS 0 16 true b)] (by simp; omega) (by simp)
  rw [show [encS 2 0 true (encS 0 16 true b)].flatten = encS 2 0 true (encS 0 16 true b) by simp] at h4
  refine acalls_vc 78 _ tabOk mixed Tryz.func46 rfl (by kernel_rfl) rfl rfl rfl rfl fun W0 fp0 z0 => ?_
  have hg0 : ([gnV n l] : List Gn)[0]? = some (gnV n l) := rfl
  (repeat' ((conv => whnf); first | refine NBr.yes ?_ | refine NBr.no ?_ | refine NCall.eq (h0) (by rfl) ?_ | refine NIdx.tab (fun _ => rfl) hg0 ?_ | refine NIdx.at 0 ?_ | refine NIdx.at 1 ?_ | refine NCall.eq (h1) (by rfl) ?_ | refine NCall.eq (h2) (by first | rfl | (simp only [AV.gives, AV.give, D.un, D.uns, uns_bytesL, List.nil_append]; first | done | rfl)) ?_ | refine NCall.eq (h3) (by first | rfl | (simp only [AV.gives, AV.give, D.un, D.uns, uns_bytesL, List.nil_append]; first | done | rfl)) ?_ | refine NCall.eq (h4) (by first | rfl | (simp only [AV.gives, AV.give, D.un, D.uns, uns_bytesL, List.nil_append]; first | done | rfl)) ?_ | (refine Or.inr ?_) | (refine NApp.at 1 _ ?_) | (refine NLoop.rounds 3 ?_) | (with_reducible refine NInt.i64 ?_))); (all_goals (conv => whnf))
  all_goals (refine NEnd.eq ?_; (repeat' (first | exact trivial | exact leW_refl _ | refine And.intro ?_ ?_ | exact rfl)))
end Go.Proofs.YtblabcopgeobgaaGreatDoor

/- subtree.Permits: which DNS names are permitted. Sizes that memory bears. -/
namespace Go.Proofs.YtblabcopgeobgaaGreatDoor
open Go.RowKit

def hitS (nm : List UInt8) (g : Gn) : Bool := g.k == 2 && underS nm g.tx
def dnsS (g : Gn) : Bool := g.k == 2
def permS (P E : List Gn) (nm : List UInt8) : Bool := !(E.any (hitS nm)) && (P.any (hitS nm) || !(P.any dnsS))
structure LOk (l : List Gn) : Prop where
  n : l.length ≤ 1000000000
  t : ∀ g ∈ l, g.tx.length ≤ 16777216
set_option maxRecDepth 100000 in
set_option maxHeartbeats 8000000 in
theorem permits_any (P E : List Gn) (nm : List UInt8) (hP : LOk P) (hE : LOk E) (hn : nm.length ≤ 16777216) : ACalls Tryz.prog 27 [.agg [.d (gnsD P), .d (gnsD E)], sv nm] (fun r => r = bv (permS P E nm)) := by
  have hP1 := hP.n
  have hE1 := hE.n
  refine acalls_vc 48 _ tabOk mixed Tryz.func27 rfl (by kernel_rfl) rfl rfl rfl rfl fun W0 fp0 z0 => ?_
  (all_goals (conv => whnf))
  refine NLoop.go (fun i : Nat => i ≤ E.length ∧ (E.take i).any (hitS nm) = false) (fun i => E.length - i) (fun i => ⟨[(1, sv nm), (2, .ptr 2 0), (12, .d (gnsD E)), (13, iv E.length), (14, iv i)], [(2, [.d (gnsD P), .d (gnsD E)])], []⟩) 0 ⟨by omega, rfl⟩ (by ((repeat' (first | exact trivial | exact leW_refl _ | refine And.intro ?_ ?_)))) ?_
  rintro i ⟨hi, ha⟩
  by_cases hik : i < E.length
  · obtain ⟨g, hg⟩ : ∃ p, E[i]? = some p := ⟨_, List.getElem?_eq_getElem hik⟩
    have hU := under_any nm g.tx hn (hE.t g (List.mem_of_getElem? hg))
    cases hk : (g.k == 2)
    · have hs : hitS nm g = false := by unfold hitS; rw [hk]; rfl
      (repeat' ((conv => whnf); first | refine NBr.no ?_ | refine NBr.neg (by assumption) ?_ | refine NIdx.tab (fun _ => rfl) hg ?_ | (with_reducible refine NInt.i64 ?_) | (refine NBr.dec (fun hc hcP => ?_) (fun hc hcP => ?_) <;> try (exfalso; omega)))); (all_goals (conv => whnf))
      refine ⟨i + 1, ⟨by omega, by rw [any_snoc _ hg, ha, hs]; rfl⟩, by omega, ?_⟩
      ((repeat' (first | exact trivial | exact leW_refl _ | refine And.intro ?_ ?_)))
    · have hs : hitS nm g = underS nm g.tx := by unfold hitS; rw [hk]; rfl
      cases hu : underS nm g.tx
      · rw [hu] at hs hU
        (repeat' ((conv => whnf); first | refine NBr.yes ?_ | refine NBr.no ?_ | refine NBr.pos (by assumption) ?_ | refine NIdx.tab (fun _ => rfl) hg ?_ | refine NCall.eq (hU) (by rfl) ?_ | (with_reducible refine NInt.i64 ?_) | (refine NBr.dec (fun hc hcP => ?_) (fun hc hcP => ?_) <;> try (exfalso; omega)))); (all_goals (conv => whnf))
        refine ⟨i + 1, ⟨by omega, by rw [any_snoc _ hg, ha, hs]; rfl⟩, by omega, ?_⟩
        ((repeat' (first | exact trivial | exact leW_refl _ | refine And.intro ?_ ?_)))
      · rw [hu] at hs hU
        rw [show permS P E nm = false by unfold permS; rw [any_at _ hg hs]; rfl]
        (repeat' ((conv => whnf); first | refine NBr.yes ?_ | refine NBr.pos (by assumption) ?_ | refine NIdx.tab (fun _ => rfl) hg ?_ | refine NCall.eq (hU) (by rfl) ?_ | (refine NBr.dec (fun hc hcP => ?_) (fun hc hcP => ?_) <;> try (exfalso; omega)))); (all_goals (conv => whnf))
        all_goals (refine NEnd.eq ?_; (repeat' (first | exact leW_refl _ | refine And.intro ?_ ?_ | exact rfl)))
  · obtain rfl : i = E.length := by omega
    rw [List.take_length] at ha
    (repeat' ((conv => whnf); (refine NBr.dec (fun hc hcP => ?_) (fun hc hcP => ?_) <;> try (exfalso; omega)))); (all_goals (conv => whnf))
    refine NLoop.go (fun i : Nat => i ≤ P.length ∧ (P.take i).any (hitS nm) = false) (fun i => P.length - i) (fun i => ⟨[(1, sv nm), (7, bv ((P.take i).any dnsS)), (8, bv false), (29, .d (gnsD P)), (30, iv P.length), (31, iv i)], [], []⟩) 0 ⟨by omega, rfl⟩ (by ((repeat' (first | exact trivial | exact leW_refl _ | refine And.intro ?_ ?_)))) ?_
    rintro i ⟨hi, hb⟩
    by_cases hik : i < P.length
    · obtain ⟨g, hg⟩ : ∃ p, P[i]? = some p := ⟨_, List.getElem?_eq_getElem hik⟩
      have hU := under_any nm g.tx hn (hP.t g (List.mem_of_getElem? hg))
      have hne : (g.k != 2) = !(g.k == 2) := rfl
      cases hk : (g.k == 2)
      · have hs : hitS nm g = false := by unfold hitS; rw [hk]; rfl
        have hd : dnsS g = false := hk
        rw [hk] at hne
        replace hne : (g.k != 2) = true := hne
        (repeat' ((conv => whnf); first | refine NBr.pos (by assumption) ?_ | refine NIdx.tab (fun _ => rfl) hg ?_ | (with_reducible refine NInt.i64 ?_) | (refine NBr.dec (fun hc hcP => ?_) (fun hc hcP => ?_) <;> try (exfalso; omega)))); (all_goals (conv => whnf))
        refine ⟨i + 1, ⟨by omega, by rw [any_snoc _ hg, hb, hs]; rfl⟩, by omega, ?_⟩
        rw [any_snoc _ hg, hd, Bool.or_false]
        ((repeat' (first | exact trivial | exact leW_refl _ | refine And.intro ?_ ?_)))
      · have hs : hitS nm g = underS nm g.tx := by unfold hitS; rw [hk]; rfl
        have hd : dnsS g = true := hk
        rw [hk] at hne
        replace hne : (g.k != 2) = false := hne
        cases hu : underS nm g.tx
        · rw [hu] at hs hU
          (repeat' ((conv => whnf); first | refine NBr.no ?_ | refine NBr.neg (by assumption) ?_ | refine NIdx.tab (fun _ => rfl) hg ?_ | refine NCall.eq (hU) (by rfl) ?_ | (with_reducible refine NInt.i64 ?_) | (refine NBr.dec (fun hc hcP => ?_) (fun hc hcP => ?_) <;> try (exfalso; omega)))); (all_goals (conv => whnf))
          refine ⟨i + 1, ⟨by omega, by rw [any_snoc _ hg, hb, hs]; rfl⟩, by omega, ?_⟩
          rw [any_snoc _ hg, hd, Bool.or_true]
          ((repeat' (first | exact trivial | exact leW_refl _ | refine And.intro ?_ ?_)))
        · rw [hu] at hs hU
          rw [show permS P E nm = true by unfold permS; rw [any_at _ hg hs, ha]; rfl]
          (repeat' ((conv => whnf); first | refine NBr.yes ?_ | refine NBr.neg (by assumption) ?_ | refine NIdx.tab (fun _ => rfl) hg ?_ | refine NCall.eq (hU) (by rfl) ?_ | (refine NBr.dec (fun hc hcP => ?_) (fun hc hcP => ?_) <;> try (exfalso; omega)))); (all_goals (conv => whnf))
          all_goals (refine NEnd.eq ?_; (repeat' (first | exact leW_refl _ | refine And.intro ?_ ?_ | exact rfl)))
    · obtain rfl : i = P.length := by omega
      rw [List.take_length] at hb ⊢
      have hr : permS P E nm = !(P.any dnsS) := by unfold permS; rw [ha, hb]; rfl
      rw [hr]
      cases hd : P.any dnsS
      all_goals
        (repeat' ((conv => whnf); first | refine NBr.no ?_ | (refine NBr.dec (fun hc hcP => ?_) (fun hc hcP => ?_) <;> try (exfalso; omega)))); (all_goals (conv => whnf))
        all_goals (refine NEnd.eq ?_; (repeat' (first | exact leW_refl _ | refine And.intro ?_ ?_ | exact rfl)))
end Go.Proofs.YtblabcopgeobgaaGreatDoor

/- What chapter 18's laws ask before all else: the fixed example. -/
namespace Go.Proofs.YtblabcopgeobgaaGreatDoor
open Go.RowKit

theorem bytes_any (f : Bool) (g : Bool) (a b : List UInt8) (ha : a.length ≤ 1000000000) (hb : b.length ≤ 1000000000) : ACalls Tryz.prog 15 [.d (bytesD f a), .d (bytesD g b)] (fun r => r = bv (a == b)) := by
  refine acalls_vc 10 _ tabOk mixed Tryz.func15 rfl (by kernel_rfl) rfl rfl rfl rfl fun W0 fp0 z0 => ?_
  (repeat' ((conv => whnf); (with_reducible refine NStr.go ?_))); (all_goals (conv => whnf))
  all_goals (refine NEnd.eq ?_; (repeat' (first | exact leW_refl _ | refine And.intro ?_ ?_ | exact rfl)))
theorem encS_a : encS 0 16 true (encS 2 0 true (encS 0 16 true [130, 1, 97])) = [48, 7, 160, 5, 48, 3, 130, 1, 97] := by
  rw [encS_small 0 16 true [130, 1, 97] (by decide), encS_small 2 0 true _ (by decide), encS_small 0 16 true _ (by decide)]
  decide
set_option maxRecDepth 100000 in
set_option maxHeartbeats 8000000 in
theorem awake18 : ACalls Tryz.prog 23 [] (fun r => r = bv true) := by
  have hM := subMarshal_txt txOk_a
  rw [encS_a] at hM
  have hB := bytes_any false false [48, 7, 160, 5, 48, 3, 130, 1, 97] [48, 7, 160, 5, 48, 3, 130, 1, 97] (by decide) (by decide)
  have p1 := permits_any [⟨2, [], [97], [], [], 0, [], 0, []⟩] [] [98, 46, 65] ⟨by decide, by decide⟩ ⟨by decide, by simp⟩ (by decide)
  have p2 := permits_any [⟨2, [], [97], [], [], 0, [], 0, []⟩] [] [98, 97] ⟨by decide, by decide⟩ ⟨by decide, by simp⟩ (by decide)
  have p3 := permits_any [⟨2, [], [97], [], [], 0, [], 0, []⟩] [] [98] ⟨by decide, by decide⟩ ⟨by decide, by simp⟩ (by decide)
  rw [show permS [⟨2, [], [97], [], [], 0, [], 0, []⟩] [] [98, 46, 65] = true by decide +kernel] at p1
  rw [show permS [⟨2, [], [97], [], [], 0, [], 0, []⟩] [] [98, 97] = false by decide +kernel] at p2
  rw [show permS [⟨2, [], [97], [], [], 0, [], 0, []⟩] [] [98] = false by decide +kernel] at p3
  refine acalls_vc 33 _ tabOk mixed Tryz.func23 rfl (by kernel_rfl) rfl rfl rfl rfl fun W0 fp0 z0 => ?_
  (repeat' ((conv => whnf); first | refine NBr.yes ?_ | (refine NCall.le (hM) ?_ ?_; focus ((repeat' (first | exact trivial | exact leW_refl _ | refine And.intro ?_ ?_ | exact rfl | exact Or.inr rfl | refine Or.inr ?_)); done)) | (refine NCall.le (hB) ?_ ?_; focus ((repeat' (first | exact trivial | exact leW_refl _ | refine And.intro ?_ ?_)); done)) | (refine NCall.le (p1) ?_ ?_; focus ((repeat' (first | exact trivial | exact leW_refl _ | refine And.intro ?_ ?_ | exact rfl | exact Or.inr rfl | refine Or.inr ?_)); done)) | (refine NCall.le (p2) ?_ ?_; focus ((repeat' (first | exact trivial | exact leW_refl _ | refine And.intro ?_ ?_ | exact rfl | exact Or.inr rfl | refine Or.inr ?_)); done)) | (refine NCall.le (p3) ?_ ?_; focus ((repeat' (first | exact trivial | exact leW_refl _ | refine And.intro ?_ ?_ | exact rfl | exact Or.inr rfl | refine Or.inr ?_)); done)))); (all_goals (conv => whnf))
  all_goals (refine NEnd.eq ?_; (repeat' (first | exact leW_refl _ | refine And.intro ?_ ?_ | exact rfl)))
end Go.Proofs.YtblabcopgeobgaaGreatDoor

/- The law SubtreeUnder, walked. -/
namespace Go.Proofs.YtblabcopgeobgaaGreatDoor
open Go.RowKit

theorem gt_true {n : Nat} {k : Int} (h : (n : Int) > k) : decide ((n : Int) > k) = true := by simpa using h
theorem gt_false {n : Nat} {k : Int} (h : ¬ (n : Int) > k) : decide ((n : Int) > k) = false := by simpa using h
end Go.Proofs.YtblabcopgeobgaaGreatDoor

/- From a contract's result to a value. No condition. -/
namespace Go.Proofs.YtblabcopgeobgaaGreatDoor
open Go.RowKit

theorem res_bv {W : World} {fp z : Nat → Nat → Prop} {w' : World} {b : Bool} {v : Value} (h : ResOk W fp z w' (bv b) v) : v = .bool b := by
  obtain ⟨-, fp, gt, z, -, h, -⟩ := h
  cases h with
  | d h => cases h; rfl
theorem le_of_size {s : ByteArray} (h : s.size ≤ maxLen) : s.data.toList.length ≤ big := by
  have : s.data.toList.length = s.size := by simp
  rw [this]; exact h
end Go.Proofs.YtblabcopgeobgaaGreatDoor

/- What the listed variables give the walks, and a world in which they hold. No condition. -/
namespace Go.Proofs.YtblabcopgeobgaaGreatDoor
open Go.ChangeShapes Go.WideShapes Go.ChangeAt Go.RowKit

/-- A row out of its contract; what the form says of the world's shape, and what is laid, are kept. -/
theorem rih_shaped {H : Type} {enc : TypeId × Value → H} {a : Assume} {C : Checked} {os : Os} {f : FuncId} {fn : Func} {s : ChangeSpec} {conds : List PathCond} {apart fresh handsOn again : Bool} {X : World → Array Value → Prop}
    (hX : ∀ (w w' : World) (args : Array Value), w.heap = w'.heap → X w args → X w' args)
    (own : ownKnob C.prog.godebug = none) (started : os.Started) (noInit : C.prog.inits.idxOf? f = none) (hfn : C.prog.funcs[f]? = some fn)
    (witness : ∃ (w : World) (tape : Tape) (i : Input), w.os = os ∧ (w.forCall tape i).Shaped C.prog ∧ i.vars = [] ∧ Input.okWide C.prog (w.forCall tape i) .any w.heap.size f i ∧
      ((s.pre enc C.prog fn conds apart (w.forCall tape i).memory i.args ∧ X (w.forCall tape i).memory i.args) ∧ sizedMet enc C.prog fn (OpenSpec.ofChange s) apart (w.forCall tape i).memory i.args) ∧ a.holds C.prog (lone (Frame.enter C.prog f i.args .normal) [] (w.forCall tape i)))
    (contract : ∀ (W : World) (base : Nat) (args : Array Value) (ds gs : List (DataW H)) (before : List MemPlace),
      (∀ (j : Nat) t v, fn.params[j]? = some t → args[j]? = some v → Value.okWide C.prog W .any base t v) →
      DataW.Whole enc C.prog fn.params.toList s.vars apart W args.toList ds gs before → W.ShapedOpen C.prog → X W args →
      Calls C.prog f args W fun e W' => ∃ v, e = .returned v ∧ s.post enc C.prog fn apart fresh handsOn again W args v W') :
    ReturnsInHanded a C os f .any (fun w args => (s.pre enc C.prog fn conds apart w args ∧ X w args) ∧ sizedMet enc C.prog fn (OpenSpec.ofChange s) apart w args) (s.post enc C.prog fn apart fresh handsOn again) := by
  refine returnsInHanded_of_calls own started noInit witness ?_
  intro w tape i _ hsh _ hok hpre hholds
  obtain ⟨_, _, _, fn', hfn', _, _, _, _, hval⟩ := hok
  have e : fn' = fn := Option.some.inj (hfn'.symm.trans hfn)
  subst e
  obtain ⟨⟨⟨ds, gs, before, hw, hc⟩, hx⟩, hz⟩ := hpre
  have hw' := DataW.Whole.of_heap (w' := w.forCall tape i) (by rfl) hw
  refine (contract (w.forCall tape i) w.heap.size i.args ds gs before hval hw' hsh (hX _ _ _ (by rfl) hx)).mono fun e W' ⟨v, he, hp⟩ => ?_
  subst he
  exact ChangeSpec.post_blind hp
theorem own : ownKnob Tryz.prog.godebug = none := by kernel_rfl
def laidL : List (String × DataW Unit) := [("math/bits.deBruijn32tab", Rows.laid_math_bits_deBruijn32tab), ("math/bits.deBruijn64tab", Rows.laid_math_bits_deBruijn64tab), ("internal/strconv.uint64pow10", Rows.laid_internal_strconv_uint64pow10), ("unicode/utf8.acceptRanges", Rows.laid_unicode_utf8_acceptRanges), ("strconv.ErrRange", Rows.laid_strconv_ErrRange), ("strconv.ErrSyntax", Rows.laid_strconv_ErrSyntax), ("unicode/utf8.first", Rows.laid_unicode_utf8_first)]

set_option maxRecDepth 100000 in
theorem laid_met (os : Os) (args : Array Value) : laidMetH Tryz.prog laidL ((World.laidAll Tryz.prog os laidL).forCall (fun _ _ => 0) ⟨#[], args, []⟩).memory := by
  rw [MakeChecks.laidMetH_plain _ _ _ (by kernel_rfl)]
  exact laidMet_laidAll _ (by kernel_rfl) (by kernel_rfl)

set_option maxRecDepth 100000 in
theorem ifAt_of {w : World} {n nm : String} {d : DataW Unit} {g t : Nat} {ms : Array (String × TypeId)} (hg : Tryz.prog.globalNamed n = some g) (hty : (Tryz.prog.globals[g]?).map (·.type) = some t) (ht : Tryz.prog.underlying t = some (.interface ms)) (h : Lib.VarReads Tryz.prog w n (.iface nm d)) : IfAt g w := by
  obtain ⟨g', t', cs, fuel, p, e1, e2, e3, e4⟩ := h
  obtain rfl := Option.some.inj (hg.symm.trans e1)
  obtain rfl := Option.some.inj (hty.symm.trans e2)
  cases fuel with
  | zero => simp [DataW.trod] at e4
  | succ fuel =>
    obtain ⟨l⟩ := cs
    have hc := World.var?_cell hg e3 0
    match l, e4, hc with
    | [], e4, _ => simp [DataW.trod, ht] at e4
    | [v], e4, hc =>
      refine ⟨v, by simpa using hc, ?_⟩
      cases v <;> first | exact .inr ⟨_, _, rfl⟩ | (simp [DataW.trod, ht] at e4; done)
    | a :: b :: r, e4, _ => simp [DataW.trod, ht] at e4
theorem tabIs_of {w : World} {n : String} {k : IntKind} {zs : List Int} {g t e : TypeId} {m : Nat} (hg : Tryz.prog.globalNamed n = some g) (hty : (Tryz.prog.globals[g]?).map (·.type) = some t) (ht : Tryz.prog.underlying t = some (.array m e)) (he : Tryz.prog.underlying e = some (.int k)) (hce : Tryz.prog.cellsOf e = 1) (hct : Tryz.prog.cellsOf t = m) (h : Lib.VarReads Tryz.prog w n (Lib.tabData k zs)) : Lib.TabIs Tryz.prog w n k zs := by
  obtain ⟨g', t', cs, fuel, p, e1, e2, e3, e4⟩ := h
  obtain rfl := Option.some.inj (hg.symm.trans e1)
  obtain rfl := Option.some.inj (hty.symm.trans e2)
  unfold Lib.TabIs
  rw [e3, ← Lib.cells_of_tab ht he hce hct e4]
theorem accept_eq : (Rows.laid_unicode_utf8_acceptRanges : DataW Unit) = Lib.acceptData := by kernel_rfl
theorem pow_eq : (Rows.laid_internal_strconv_uint64pow10 : DataW Unit) = Lib.tabData .u64 Lib.pow10Tab := by kernel_rfl

set_option maxRecDepth 100000 in
theorem gd_of_laid {W : World} (hsh : W.ShapedOpen Tryz.prog) (h : laidMetH Tryz.prog laidL W) : Gd W := by
  rw [MakeChecks.laidMetH_plain _ _ _ (by kernel_rfl)] at h
  have r3 := Lib.laidMet.reads h (n := "internal/strconv.uint64pow10") (d := Rows.laid_internal_strconv_uint64pow10) (by simp [laidL])
  have r1 := Lib.laidMet.reads h (n := "unicode/utf8.acceptRanges") (d := Rows.laid_unicode_utf8_acceptRanges) (by simp [laidL])
  have r5 := Lib.laidMet.reads h (n := "strconv.ErrRange") (d := Rows.laid_strconv_ErrRange) (by simp [laidL])
  have r6 := Lib.laidMet.reads h (n := "strconv.ErrSyntax") (d := Rows.laid_strconv_ErrSyntax) (by simp [laidL])
  have r2 := Lib.laidMet.reads h (n := "unicode/utf8.first") (d := Rows.laid_unicode_utf8_first) (by simp [laidL])
  rw [accept_eq] at r1
  rw [pow_eq] at r3
  rw [show (Rows.laid_unicode_utf8_first : DataW Unit) = Lib.firstData from Pinned.utf8First_eq] at r2
  exact ⟨utf8Tabs_of_readsT (U8Types.of196 Tryz.laysValid) ⟨by kernel_rfl, by kernel_rfl, by kernel_rfl, by kernel_rfl, by kernel_rfl, by kernel_rfl, by kernel_rfl⟩ r2 r1,
    tabIs_of (g := 4) (t := 275) (e := 148) (m := 20) (by kernel_rfl) (by kernel_rfl) Tryz.underlying275 Tryz.underlying148 (by kernel_rfl) (by kernel_rfl) r3,
    ifAt_of (g := 2) (t := 189) (by kernel_rfl) (by kernel_rfl) Tryz.underlying189 r6,
    ifAt_of (g := 3) (t := 189) (by kernel_rfl) (by kernel_rfl) Tryz.underlying189 r5,
    cell_of_shapedOpen_int (zero := #[.int .i64 0]) (t := 3) hsh (of_decide_eq_true (by kernel_rfl)) (by kernel_rfl) rfl (by kernel_rfl) (by kernel_rfl) Tryz.underlying3⟩
end Go.Proofs.YtblabcopgeobgaaGreatDoor
