/- ML: the texts LawWide OpnW, one behind the other. No condition but what each lemma says. -/
import Derived.Test.YtblabcopgeobgaaGreatDoorMH
import Derived.Test.YtblabcopgeobgaaGreatDoorMC
/- The law SubtreeWider, walked. -/
namespace Go.Proofs.YtblabcopgeobgaaGreatDoor
open Go.RowKit

theorem uns_gn (l : List Gn) : D.uns (l.flatMap gnC) = l.flatMap gnC := by
  induction l with
  | nil => rfl
  | cons p r ih => rw [List.flatMap_cons, D.uns_eq, List.map_append, ← D.uns_eq, ← D.uns_eq, gnC_uns, ih]
theorem any_less {α : Type} {f : α → Bool} {l : List α} (k : Nat) (h : l.any f = false) : (l.take k ++ l.drop (k + 1)).any f = false := by
  rw [List.any_eq_false] at h ⊢
  intro x hx
  refine h x ?_
  rcases List.mem_append.1 hx with hx | hx
  · exact List.mem_of_mem_take hx
  · exact List.mem_of_mem_drop hx
theorem permS_wide {P E : List Gn} {nm : List UInt8} (P' E' : List Gn) (h : permS P E nm = true) (hE : E' = E ∨ ∃ k, E' = E.take k ++ E.drop (k + 1)) (hP : P' = P ∨ (P.any dnsS = true ∧ ∃ g, P' = P ++ [g])) : permS P' E' nm = true := by
  unfold permS at h ⊢
  rw [Bool.and_eq_true, Bool.not_eq_true'] at h
  obtain ⟨h1, h2⟩ := h
  have hE' : E'.any (hitS nm) = false := by
    rcases hE with rfl | ⟨k, rfl⟩
    · exact h1
    · exact any_less k h1
  rw [hE', Bool.not_false, Bool.true_and]
  rcases hP with rfl | ⟨h3, g, rfl⟩
  · exact h2
  · rw [h3, Bool.not_true, Bool.or_false] at h2
    rw [List.any_append, h2]; rfl
def newD (mo : List UInt8) : List D := [.v (.int .i64 2), .v (.string ⟨#[]⟩), .v (.string ⟨⟨mo⟩⟩), .v (.slice none 0 0), .v (.slice none 0 0), .v (.int .i64 0), .v (.string ⟨#[]⟩), .v (.int .i64 0), .v (.string ⟨#[]⟩)]
theorem leDz_app {b b' : List D} (h : leDz b b') : ∀ l : List D, leDz (l ++ b) (l ++ b')
  | [] => h
  | x :: r => ⟨leD_refl x, leDz_app h r⟩
theorem le_new (P : List Gn) (mo : List UInt8) : leDz (P.flatMap gnC ++ newD mo) ((P ++ [gnV 2 mo]).flatMap gnC) := by
  rw [List.flatMap_append]
  refine leDz_app ?_ _
  simp only [newD, gnV, gnC, List.flatMap_cons, List.flatMap_nil, List.append_nil]
  simp [leDz, leD, bytesD, nameD, tabD, bytesL]
theorem le_two {a b : AV} {A B : D} {nm : List UInt8} (h1 : leW a.give (.d A)) (h2 : leW b.give (.d B)) : leWs (AV.gives [.agg [a, b], sv nm]) [.agg [.d A, .d B], sv nm] := by
  simp only [AV.gives, AV.give, leWs, leW, and_true, D.un]
  exact ⟨⟨h1, h2⟩, leD_refl _⟩
theorem le_newA {n k : Nat} {e : TypeId} (P : List Gn) (mo : List UInt8) (hn : n = P.length + 1) : leW (AV.give (.own k n 9 e (P.flatMap gnC ++ newD mo))) (.d (gnsD (P ++ [gnV 2 mo]))) := by
  subst hn
  have : D.uns (P.flatMap gnC ++ newD mo) = P.flatMap gnC ++ newD mo := by
    rw [D.uns_eq, List.map_append, ← D.uns_eq, uns_gn]; rfl
  simp only [AV.give, this, leW, gnsD, tabD, leD]
  exact ⟨.inr trivial, by simp, trivial, .inr (le_new P mo)⟩
theorem le_ownA {n k : Nat} {e : TypeId} (P : List Gn) (hn : n = P.length) : leW (AV.give (.own k n 9 e (P.flatMap gnC))) (.d (gnsD P)) := by
  subst hn
  simp only [AV.give, uns_gn, leW, gnsD, tabD, leD]
  exact ⟨.inr trivial, trivial, trivial, .inl trivial⟩
theorem le_oldA (P : List Gn) : leW (AV.give (.d (gnsD P))) (.d (gnsD P)) := by
  simp only [AV.give, un_gnsD]; exact leW_refl _
theorem gn_len (g : Gn) : (gnC g).length = 9 := rfl
set_option maxRecDepth 100000
set_option maxHeartbeats 16000000
theorem lawWider (P E : List Gn) (mo nm : List UInt8) (wo : UInt8) (hP : P.length ≤ big ∧ ∀ g ∈ P, g.ok) (hE : E.length ≤ big ∧ ∀ g ∈ E, g.ok) (hn : mo.length ≤ big) (hb : nm.length ≤ big) : ACalls Tryz.prog 7 [.agg [.d (gnsD P), .d (gnsD E)], .agg [sv mo, sv nm], .d (.v (.int .u8 wo.toNat))] (fun r => r = bv true) := by
  have hA := awake18
  have hF := rFewSub_any P E hP hE
  unfold big at hn hb
  cases hf : (fewList P && fewList E)
  · rw [hf] at hF
    refine acalls_vc 95 _ tabOk mixed Tryz.func7 rfl (by kernel_rfl) rfl rfl rfl rfl fun W0 fp0 z0 => ?_
    (repeat' ((conv => whnf); first | refine NBr.yes ?_ | refine NBr.no ?_ | refine NLa.mk ⟨_, la_idxArr 0 rfl rfl (ltN rfl) Tryz.underlying50 ty9 rfl rfl rfl (by decide), ?_⟩ | refine NLa.mk ⟨_, la_idxArr 1 rfl rfl (ltN rfl) Tryz.underlying50 ty9 rfl rfl rfl (by decide), ?_⟩ | refine NCall.eq (hA) (by rfl) ?_ | refine NCall.eq (hF) (by first | rfl | (simp only [AV.gives, AV.give, un_gnsD]; first | done | rfl)) ?_ | refine NFact.go ⟨by decide +kernel, by kernel_rfl⟩ ?_)); (all_goals (conv => whnf))
    all_goals (refine NEnd.eq ?_; (repeat' (first | exact leW_refl _ | refine And.intro ?_ ?_ | exact rfl)))
  rw [hf] at hF
  rw [Bool.and_eq_true] at hf
  have kP := lok_of hf.1
  have kE := lok_of hf.2
  have nP := (fewList_facts hf.1).1
  have nE := (fewList_facts hf.2).1
  by_cases h1 : (mo.length : Int) > 300
  · have g1 := gt_true h1
    clear h1
    refine acalls_vc 95 _ tabOk mixed Tryz.func7 rfl (by kernel_rfl) rfl rfl rfl rfl fun W0 fp0 z0 => ?_
    (repeat' ((conv => whnf); first | refine NBr.yes ?_ | refine NBr.no ?_ | refine NBr.pos (by assumption) ?_ | refine NLa.mk ⟨_, la_idxArr 0 rfl rfl (ltN rfl) Tryz.underlying50 ty9 rfl rfl rfl (by decide), ?_⟩ | refine NLa.mk ⟨_, la_idxArr 1 rfl rfl (ltN rfl) Tryz.underlying50 ty9 rfl rfl rfl (by decide), ?_⟩ | refine NCall.eq (hA) (by rfl) ?_ | refine NCall.eq (hF) (by first | rfl | (simp only [AV.gives, AV.give, un_gnsD]; first | done | rfl)) ?_ | refine NFact.go ⟨by decide +kernel, by kernel_rfl⟩ ?_)); (all_goals (conv => whnf))
    all_goals (refine NEnd.eq ?_; (repeat' (first | exact leW_refl _ | refine And.intro ?_ ?_ | exact rfl)))
  have g1 := gt_false h1
  by_cases h2 : (nm.length : Int) > 300
  · have g2 := gt_true h2
    clear h1 h2
    refine acalls_vc 95 _ tabOk mixed Tryz.func7 rfl (by kernel_rfl) rfl rfl rfl rfl fun W0 fp0 z0 => ?_
    (repeat' ((conv => whnf); first | refine NBr.yes ?_ | refine NBr.no ?_ | refine NBr.pos (by assumption) ?_ | refine NBr.neg (by assumption) ?_ | refine NLa.mk ⟨_, la_idxArr 0 rfl rfl (ltN rfl) Tryz.underlying50 ty9 rfl rfl rfl (by decide), ?_⟩ | refine NLa.mk ⟨_, la_idxArr 1 rfl rfl (ltN rfl) Tryz.underlying50 ty9 rfl rfl rfl (by decide), ?_⟩ | refine NCall.eq (hA) (by rfl) ?_ | refine NCall.eq (hF) (by first | rfl | (simp only [AV.gives, AV.give, un_gnsD]; first | done | rfl)) ?_ | refine NFact.go ⟨by decide +kernel, by kernel_rfl⟩ ?_)); (all_goals (conv => whnf))
    all_goals (refine NEnd.eq ?_; (repeat' (first | exact leW_refl _ | refine And.intro ?_ ?_ | exact rfl)))
  have g2 := gt_false h2
  have u3 := permits_any P E nm kP kE (by omega)
  cases hp : permS P E nm
  · rw [hp] at u3
    clear h1 h2
    refine acalls_vc 95 _ tabOk mixed Tryz.func7 rfl (by kernel_rfl) rfl rfl rfl rfl fun W0 fp0 z0 => ?_
    (repeat' ((conv => whnf); first | refine NBr.yes ?_ | refine NBr.no ?_ | refine NBr.neg (by assumption) ?_ | refine NLa.mk ⟨_, la_idxArr 0 rfl rfl (ltN rfl) Tryz.underlying50 ty9 rfl rfl rfl (by decide), ?_⟩ | refine NLa.mk ⟨_, la_idxArr 1 rfl rfl (ltN rfl) Tryz.underlying50 ty9 rfl rfl rfl (by decide), ?_⟩ | refine NCall.eq (hA) (by rfl) ?_ | refine NCall.eq (hF) (by first | rfl | (simp only [AV.gives, AV.give, un_gnsD]; first | done | rfl)) ?_ | refine NCall.eq (u3) (by first | rfl | (simp only [AV.gives, AV.give, D.un, un_gnsD]; first | done | rfl)) ?_ | refine NFact.go ⟨by decide +kernel, by kernel_rfl⟩ ?_)); (all_goals (conv => whnf))
    all_goals (refine NEnd.eq ?_; (repeat' (first | exact leW_refl _ | refine And.intro ?_ ?_ | exact rfl)))
  rw [hp] at u3
  refine acalls_vc 95 _ tabOk mixed Tryz.func7 rfl (by kernel_rfl) rfl rfl rfl rfl fun W0 fp0 z0 => ?_
  (repeat' ((conv => whnf); first | refine NBr.no ?_ | refine NBr.neg (by assumption) ?_ | refine NLa.mk ⟨_, la_idxArr 0 rfl rfl (ltN rfl) Tryz.underlying50 ty9 rfl rfl rfl (by decide), ?_⟩ | refine NLa.mk ⟨_, la_idxArr 1 rfl rfl (ltN rfl) Tryz.underlying50 ty9 rfl rfl rfl (by decide), ?_⟩ | refine NCall.eq (hA) (by rfl) ?_ | refine NCall.eq (hF) (by first | rfl | (simp only [AV.gives, AV.give, un_gnsD]; first | done | rfl)) ?_ | refine NCall.eq (u3) (by first | rfl | (simp only [AV.gives, AV.give, D.un, un_gnsD]; first | done | rfl)) ?_ | refine NFact.go ⟨by decide +kernel, by kernel_rfl⟩ ?_)); (all_goals (conv => whnf))
  refine NLoop.go (fun i : Nat => i ≤ P.length) (fun i => P.length - i) (fun i => ⟨[(2, .d (.v (.int .u8 wo.toNat))), (3, .ptr 3 0), (7, sv mo), (8, sv nm), (9, bv ((P.take i).any dnsS)), (10, iv i)], [(3, [.d (gnsD P), .d (gnsD E)])], []⟩) 0 (by omega) (by ((repeat' (first | exact trivial | exact leW_refl _ | refine And.intro ?_ ?_)))) ?_
  rintro i hi
  by_cases hik : i < P.length
  · have gi : decide ((i : Int) < P.length) = true := decide_eq_true (by omega)
    obtain ⟨g, hg⟩ : ∃ p, P[i]? = some p := ⟨_, List.getElem?_eq_getElem hik⟩
    have hs := any_snoc dnsS hg
    cases hb : (P.take i).any dnsS
    · rw [hb, Bool.false_or] at hs
      cases hk : (g.k == 2)
      · rw [show dnsS g = false from hk] at hs
        (repeat' ((conv => whnf); first | refine NBr.no ?_ | refine NBr.pos (by assumption) ?_ | refine NIdx.tab (fun _ => rfl) hg ?_ | (with_reducible refine NInt.i64 ?_))); (all_goals (conv => whnf))
        refine ⟨i + 1, by omega, by omega, ?_⟩
        rw [hs]
        ((repeat' (first | exact trivial | exact leW_refl _ | refine And.intro ?_ ?_)); (all_goals (conv => whnf)))
        all_goals exact hk
      · rw [show dnsS g = true from hk] at hs
        (repeat' ((conv => whnf); first | refine NBr.no ?_ | refine NBr.pos (by assumption) ?_ | refine NIdx.tab (fun _ => rfl) hg ?_ | (with_reducible refine NInt.i64 ?_))); (all_goals (conv => whnf))
        refine ⟨i + 1, by omega, by omega, ?_⟩
        rw [hs]
        ((repeat' (first | exact trivial | exact leW_refl _ | refine And.intro ?_ ?_)); (all_goals (conv => whnf)))
        all_goals exact hk
    · rw [hb, Bool.true_or] at hs
      (repeat' ((conv => whnf); first | refine NBr.yes ?_ | refine NBr.pos (by assumption) ?_ | (with_reducible refine NInt.i64 ?_))); (all_goals (conv => whnf))
      refine ⟨i + 1, by omega, by omega, ?_⟩
      rw [hs]
      ((repeat' (first | exact trivial | exact leW_refl _ | refine And.intro ?_ ?_)))
  have gi : decide ((i : Int) < P.length) = false := decide_eq_false (by omega)
  obtain rfl : i = P.length := by omega
  rw [List.take_length]
  have kP' : LOk (P ++ [gnV 2 mo]) := ⟨by rw [List.length_append, List.length_singleton]; omega, fun g hg => by
    rcases List.mem_append.1 hg with h | h
    · exact kP.t g h
    · rw [List.mem_singleton.1 h]; show mo.length ≤ _; omega⟩
  by_cases hE0 : E = []
  · subst hE0
    cases hd : P.any dnsS
    · (repeat' ((conv => whnf); first | refine NBr.no ?_ | refine NBr.neg (by assumption) ?_ | refine NCall.eq (u3) (by first | rfl | (simp only [AV.gives, AV.give, D.un, un_gnsD]; first | done | rfl)) ?_)); (all_goals (conv => whnf))
      all_goals (refine NEnd.eq ?_; (repeat' (first | exact leW_refl _ | refine And.intro ?_ ?_ | exact rfl)))
    · have hw := permS_wide (P ++ [gnV 2 mo]) [] hp (.inl rfl) (.inr ⟨hd, _, rfl⟩)
      have u4 := permits_any (P ++ [gnV 2 mo]) [] nm kP' kE (by omega)
      rw [hw] at u4
      (repeat' ((conv => whnf); first | refine NBr.yes ?_ | refine NBr.no ?_ | refine NBr.neg (by assumption) ?_ | (refine NApp.tab0 gnC (m := P) rfl rfl ?_) | (refine NApp.at (P.length + 1) (P.flatMap gnC ++ newD mo) ?_) | (refine NCall.le u4 (le_two (le_newA P mo rfl) (le_oldA [])) ?_))); (all_goals (conv => whnf))
      all_goals (refine NEnd.eq ?_; (repeat' (first | exact leW_refl _ | refine And.intro ?_ ?_ | exact rfl)))
  · have nE0 : 0 < E.length := by cases E with | nil => exact absurd rfl hE0 | cons _ _ => simp
    have hkl : wo.toNat % E.length < E.length := Nat.mod_lt _ nE0
    have hgt : decide ((E.length : Int) > 0) = true := decide_eq_true (by omega)
    have kE' : LOk (E.take (wo.toNat % E.length) ++ E.drop ((wo.toNat % E.length) + 1)) := ⟨by rw [List.length_append, List.length_take, List.length_drop]; omega, fun g hg => by
      rcases List.mem_append.1 hg with h | h
      · exact kE.t g (List.mem_of_mem_take h)
      · exact kE.t g (List.mem_of_mem_drop h)⟩
    have e1 : (E.drop 0).take ((wo.toNat % E.length) - 0) = E.take (wo.toNat % E.length) := by simp
    have e2 : (E.drop ((wo.toNat % E.length) + 1)).take (E.length - ((wo.toNat % E.length) + 1)) = E.drop ((wo.toNat % E.length) + 1) := List.take_of_length_le (by rw [List.length_drop]; omega)
    have l1 : (E.take (wo.toNat % E.length)).length = (wo.toNat % E.length) := by rw [List.length_take]; omega
    have l2 : (E.drop ((wo.toNat % E.length) + 1)).length = E.length - ((wo.toNat % E.length) + 1) := List.length_drop
    have hwo := wo.toNat_lt
    cases hd : P.any dnsS
    · have hw := permS_wide P (E.take (wo.toNat % E.length) ++ E.drop ((wo.toNat % E.length) + 1)) hp (.inr ⟨(wo.toNat % E.length), rfl⟩) (.inl rfl)
      have u4 := permits_any P (E.take (wo.toNat % E.length) ++ E.drop ((wo.toNat % E.length) + 1)) nm kP kE' (by omega)
      rw [hw] at u4
      (repeat' ((conv => whnf); first | refine NBr.no ?_ | refine NBr.pos (by assumption) ?_ | refine NBr.neg (by assumption) ?_ | refine NInt.as ((wo.toNat : Int) ) ( IntWalk.i64_in _ (by omega)) ?_ | refine NSl.tab gn_len 0 (wo.toNat % E.length) (E.take (wo.toNat % E.length)) e1 ?_ | refine NSl.tab gn_len (wo.toNat % E.length + 1) E.length (E.drop (wo.toNat % E.length + 1)) e2 ?_ | (refine NApp.tab0 gnC (m := E.take (wo.toNat % E.length)) rfl rfl ?_) | (refine NApp.tab gnC (l := E.take (wo.toNat % E.length)) (m := E.drop (wo.toNat % E.length + 1)) rfl rfl ?_) | (refine NCall.le u4 (le_two (le_oldA P) (le_ownA (E.take (wo.toNat % E.length) ++ E.drop (wo.toNat % E.length + 1)) rfl)) ?_) | (with_reducible refine NInt.i64 ?_) | (with_reducible refine NInt.rem ?_) | refine NFact.go ⟨by decide +kernel, by kernel_rfl⟩ ?_ | refine NFact.go (by first | decide | omega | (simp only [List.length_cons, List.length_nil]; omega)) ?_)); (all_goals (conv => whnf))
      all_goals (refine NEnd.eq ?_; (repeat' (first | exact leW_refl _ | refine And.intro ?_ ?_ | exact rfl)))
    · have hw := permS_wide (P ++ [gnV 2 mo]) (E.take (wo.toNat % E.length) ++ E.drop ((wo.toNat % E.length) + 1)) hp (.inr ⟨(wo.toNat % E.length), rfl⟩) (.inr ⟨hd, _, rfl⟩)
      have u4 := permits_any (P ++ [gnV 2 mo]) (E.take (wo.toNat % E.length) ++ E.drop ((wo.toNat % E.length) + 1)) nm kP' kE' (by omega)
      rw [hw] at u4
      (repeat' ((conv => whnf); first | refine NBr.yes ?_ | refine NBr.pos (by assumption) ?_ | refine NBr.neg (by assumption) ?_ | (refine NApp.tab0 gnC (m := P) rfl rfl ?_) | (refine NApp.at (P.length + 1) (P.flatMap gnC ++ newD mo) ?_) | refine NInt.as ((wo.toNat : Int) ) ( IntWalk.i64_in _ (by omega)) ?_ | refine NSl.tab gn_len 0 (wo.toNat % E.length) (E.take (wo.toNat % E.length)) e1 ?_ | refine NSl.tab gn_len (wo.toNat % E.length + 1) E.length (E.drop (wo.toNat % E.length + 1)) e2 ?_ | (refine NApp.tab0 gnC (m := E.take (wo.toNat % E.length)) rfl rfl ?_) | (refine NApp.tab gnC (l := E.take (wo.toNat % E.length)) (m := E.drop ((wo.toNat % E.length) + 1)) rfl rfl ?_) | (refine NCall.le u4 (le_two (le_newA P mo rfl) (le_ownA (E.take (wo.toNat % E.length) ++ E.drop ((wo.toNat % E.length) + 1)) rfl)) ?_) | (with_reducible refine NInt.i64 ?_) | (with_reducible refine NInt.rem ?_) | refine NFact.go ⟨by decide +kernel, by kernel_rfl⟩ ?_ | refine NFact.go (by first | decide | omega | (simp only [List.length_cons, List.length_nil]; omega)) ?_)); (all_goals (conv => whnf))
      all_goals (refine NEnd.eq ?_; (repeat' (first | exact leW_refl _ | refine And.intro ?_ ?_ | exact rfl)))
end Go.Proofs.YtblabcopgeobgaaGreatDoor

/- Arguments: two strings, an octet. No condition. -/
namespace Go.Proofs.YtblabcopgeobgaaGreatDoor
open Go.ChangeShapes Go.WideShapes Go.ChangeAt Go.RowKit Go.Joins

theorem op_arr2 : Op 50 2 (fun p : List UInt8 × List UInt8 => [sD p.1, sD p.2]) (fun p => p.1.length ≤ big ∧ p.2.length ≤ big) := by
  intro H enc w fuel cs x h
  obtain ⟨xs, m, -, -, hl, hn, hel⟩ := DataW.trod_array Tryz.underlying50 h
  have hl' : cs.length = 2 := hl.trans (by kernel_rfl)
  have hc : Tryz.prog.cellsOf 9 = 1 := by kernel_rfl
  rw [hc] at hel
  have h0 := hel 0 (by omega)
  have h1 := hel 1 (by omega)
  rw [List.getElem?_eq_getElem (by omega)] at h0 h1
  obtain ⟨a, k0, -, r0⟩ := op_string enc w m _ _ h0
  obtain ⟨b, k1, -, r1⟩ := op_string enc w m _ _ h1
  exact ⟨⟨a, b⟩, ⟨k0, k1⟩, hl', drop0 (seg_cons r0 (seg_cons r1 (seg_nil hl')))⟩
set_option maxRecDepth 100000 in
theorem arg_arr {α : Type} {t : TypeId} {n : Nat} {C : α → List D} {ok : α → Prop} (hop : Op t n C ok) {m : Nat} {e : TypeId} (ht : Tryz.prog.underlying t = some (.array m e)) {H : Type} {enc : TypeId × Value → H} {W : World} {base : Nat} {v : Value} {d : DataW H} {p : List MemPlace}
    (hv : Value.okWide Tryz.prog W .any base t v) (h : DataW.Trod enc Tryz.prog W 0 (fun _ => true) true t v d p) : ∃ a, ok a ∧ ARA W (.agg ((C a).map .d)) v := by
  simp only [Value.okWide, ht] at hv
  obtain ⟨cs, rfl, -⟩ := hv
  obtain ⟨fuel, hf⟩ := h
  obtain ⟨a, k1, -, k3⟩ := hop enc W fuel _ _ hf
  refine ⟨a, k1, ?_⟩
  have hr : RdsW W (C a) cs.toList := k3
  have := RA.agg (B := W.heap.size) (fp := fpAll W) (w := W) (bm := ⟨fun _ => 0, fun _ _ => False⟩) (gt := fun _ => undef) (cs := (C a).map .d) cs.toList (by rw [List.length_map]; exact hr.len.symm) (fun i u v hu hv => by
    rw [List.getElem?_map, Option.map_eq_some_iff] at hu
    obtain ⟨d, hd, rfl⟩ := hu
    exact .d (hr.rd i d v hd hv))
  simpa using this
set_option maxRecDepth 100000 in
theorem one_num {t : TypeId} {k : IntKind} (ht : Tryz.prog.underlying t = some (.int k)) {W : World} {base : Nat} {v : Value} (hv : Value.okWide Tryz.prog W .any base t v) : v.cells.toList = [v] := by
  obtain ⟨n, rfl, -⟩ := okWide_int ht hv; rfl
end Go.Proofs.YtblabcopgeobgaaGreatDoor
