/- An append of whatever is read, as a step of a region that draws its order. No condition. -/
import Derived.Test.YtblabcopgeobgaaGreatDoorBase
import Derived.Deep.RegionHeld3
namespace Go.Proofs.YtblabcopgeobgaaGreatDoor
open Go.RowKit

theorem step_append_rd {P : Program} {w : World} {ops : Array Oper} {o : Oper} {a : Act} {K : Act → World → Prop} {Q : Exit → Act → World → Prop} {E0 : Prop} (hgd : o.guard = none) (s x : Operand) (t : TypeId)
    (ho : o.op = .call { callee := .builtin .append, args := #[s, x], argTypes := #[t, t] }) {e : TypeId} {z : Value} {sz bytes : Nat} (E : ElemOk P t e z sz bytes)
    {W : World} {base : Nat} (hB : Below base W w) (hbase : base ≤ w.heap.size) {v : Value} {n : Nat} {xs : List Value} (hown : w.ownsRow base e sz v n xs) (hs : a.eval s = v)
    {S : Nat → Prop} {vx : Value} {m : Nat} {news : List Value} (hrd : RdRow S w vx m sz news) (hx : a.eval x = vx) (h1 : ∀ u ∈ news, u.oneCell' = true)
    (h63 : n + m ≤ maxLen) (hbytes : (n + m) * bytes ≤ 140737488355328)
    (h : ∀ v' w', w'.ownsRow base e sz v' (n + m) (xs ++ news) → Below base W w' → (∀ b, some b ≠ v.ownBlock → b < w.heap.size → w'.heap[b]? = w.heap[b]?) → w.heap.size ≤ w'.heap.size →
      (v' = .slice none 0 0 ↔ v = .slice none 0 0 ∧ m = 0) → (∀ b, some b = v'.ownBlock → some b = v.ownBlock ∨ w.heap.size ≤ b) → K (a.put o.dst v') w') :
    if Region.wanted o (yielded ops a.tmps) = true then Oper.wp P o a w K Q else E0 := by
  have hwant : Region.wanted o (yielded ops a.tmps) = true := by simp [Region.wanted, hgd]
  rw [if_pos hwant]
  obtain ⟨i, hi, hz0, hz1, hz2⟩ := info_parts E.info
  obtain ⟨ad, c, rfl, k1, k2, ⟨k3, k4⟩, k5⟩ := hrd
  cases ad with
  | none =>
    have hc : c = 0 := k4 rfl
    have hm : m = 0 := by omega
    subst hm; subst hc
    have hn : news = [] := List.eq_nil_of_length_eq_zero (by simpa using k3)
    subst hn
    unfold Oper.wp execOp
    have hr := run_append_owned_none (P := P) (w := w) base t o.type e i sz E.ht hi v n xs hown
    simp only [ho, resolve, invoke, builtin, Sem.run_bind, Sem.run_pure, Result.andThen_ok, List.map_toArray, List.map_cons, List.map_nil, hs, hx, hr]
    exact h v w (by simpa using hown) hB (fun _ _ _ => rfl) (Nat.le_refl _) (by simp) (fun b hb => .inl hb)
  | some ad =>
    have hnews : ∀ j u, news[j]? = some u → w.cell? (ad.add j) = some u := by
      intro j u hu
      obtain ⟨b, o', e1, _, e3⟩ := k5 j u hu
      simp only [Option.some.injEq] at e1
      subst e1
      have hplain : (⟨b, o', none⟩ : Addr).add j = ⟨b, o' + j, none⟩ := by unfold Addr.add; split <;> simp_all
      rw [hplain]; exact e3
    obtain ⟨v', w', hr, h2, h3, h4⟩ := run_append_own (P := P) w base t o.type e i z sz bytes E.ht hi hz0 hz1 hz2 E.hz E.pos v n xs hown ad m c news k3 hnews h1 h63 hbytes hbase
    have own' : ∀ b, some b = v'.ownBlock → some b = v.ownBlock ∨ w.heap.size ≤ b := by
      intro b hb
      subst hz1
      rcases hown.2 with ⟨rfl, rfl⟩ | ⟨g, cap, cur, rfl, hbg, hg, hnc, hcm, hcs, htake⟩
      · by_cases hm : m = 0
        · rw [h4.2 ⟨rfl, hm⟩] at hb; exact .inl hb
        · have hr2 := run_append_nil (P := P) w t o.type e i z E.ht hi hz0 ad m c news k3 hnews (by omega) (by unfold maxLen at h63; omega) (by subst hz2; simp only [Nat.zero_add] at hbytes; omega)
          rw [hr] at hr2
          simp only [Result.ok.injEq] at hr2
          rw [hr2.1] at hb
          simp only [Value.ownBlock, Option.some.injEq] at hb
          right; omega
      · by_cases hroom : n + m ≤ cap
        · have hfit : n * i.size + news.length ≤ cur.size := by rw [k3, hcs, ← Nat.add_mul]; exact Nat.mul_le_mul_right _ hroom
          have hr2 := run_append_room (P := P) w t o.type e i E.ht hi g n cap cur hg ad m c news k3 hnews h1 hroom hfit
          rw [hr] at hr2
          simp only [Result.ok.injEq] at hr2
          rw [hr2.1] at hb
          exact .inl hb
        · have holds : ∀ j u, xs[j]? = some u → w.cell? ((⟨g, 0, none⟩ : Addr).add j) = some u := hown.cells (g := g) rfl
          have hr2 := run_append_grow (P := P) w t o.type e i z E.ht hi hz0 ⟨g, 0, none⟩ n cap xs hown.1 holds ad m c news k3 hnews (by omega) (by unfold maxLen at h63; omega) (growslice_fits (by omega) (by subst hz2; exact hbytes))
          rw [hr] at hr2
          simp only [Result.ok.injEq] at hr2
          rw [hr2.1] at hb
          simp only [Value.ownBlock, Option.some.injEq] at hb
          right; omega
    unfold Oper.wp execOp
    simp only [ho, resolve, invoke, builtin, Sem.run_bind, Sem.run_pure, Result.andThen_ok, List.map_toArray, List.map_cons, List.map_nil, hs, hx, hr]
    exact (h v' w' h2 (hB.grown h3 hbase (fun k e => (hown.lt k e).1)) (fun b hb hlt => h3.block b hlt hb) h3.size h4 own')


end Go.Proofs.YtblabcopgeobgaaGreatDoor
