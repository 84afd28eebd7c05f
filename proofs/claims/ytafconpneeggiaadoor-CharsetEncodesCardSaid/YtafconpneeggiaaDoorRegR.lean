/- A region that draws its order, each operation walked once, knowing of the others only what it waits for. No condition. -/
import Derived.Test.YtafconpneeggiaaDoorRegion
import Derived.Below
namespace Go.Proofs.YtafconpneeggiaaDoor
open Go.RowKit

def updV (x : Nat → Value) (s : Nat) (v : Value) : Nat → Value := fun k => if k = s then v else x k
theorem updV_same (x : Nat → Value) (s : Nat) (v : Value) : updV x s v s = v := by simp [updV]
theorem updV_ne (x : Nat → Value) (s : Nat) (v : Value) (k : Nat) (h : k ≠ s) : updV x s v k = x k := by simp [updV, h]

/-- Each operation's step, from place k on. R: what an operation's value is known to be. -/
def stepsR (P : Program) (ops : Array Oper) (Q : Exit → Act → World → Prop) (arr : (Nat → Value) → Array Value) (slots : List Nat) (R : Nat → Value → World → Prop) (W0 : World) : Nat → List Oper → Prop
  | _, [] => True
  | k, o :: r => (∀ (x : Nat → Value) (w : World), Below W0.heap.size W0 w → (∀ e ∈ o.after.toList, Region.binds .any e = true → R e.on (x (slots.getD e.on 0)) w) →
      wpList P ops (Exit.then (fun a' w' => ∃ v, a' = { tmps := arr (updV x (slots.getD k 0) v), defers := [] } ∧ R k v w' ∧ Below w.heap.size w w') Q) [o] { tmps := arr x, defers := [] } w) ∧
    stepsR P ops Q arr slots R W0 (k + 1) r

def RJ (n : Nat) (arr : (Nat → Value) → Array Value) (slots : List Nat) (R : Nat → Value → World → Prop) (W0 : World) (d : Nat → Bool) (a : Act) (w : World) : Prop :=
  ∃ x : Nat → Value, a = { tmps := arr x, defers := [] } ∧ Below W0.heap.size W0 w ∧ ∀ k, k < n → d k = true → R k (x (slots.getD k 0)) w

theorem wp_then2 {P : Program} {o : Oper} {a : Act} {w : World} {K K' : Act → World → Prop} {Q : Exit → Act → World → Prop}
    (h : o.wp P a w K' (Exit.then K' Q)) (hk : ∀ a w, K' a w → K a w) : o.wp P a w K (Exit.then K Q) := by
  unfold Oper.wp at *
  generalize (execOp a.eval o).run P w = r at *
  cases r with
  | ok n w' =>
    cases n <;> simp only [Oper.upon] at h ⊢ <;> first | exact hk _ _ h | exact Calls.mono h (fun e w'' he => by cases e <;> first | exact hk _ _ he | exact he) | exact Rows.mono h (fun _ _ he => hk _ _ he)
  | halt x w' => cases x <;> simp only [Oper.upon] at h ⊢ <;> exact h

theorem wpList_imp1 {P : Program} {ops : Array Oper} {o : Oper} {a : Act} {w : World} {K K' : Act → World → Prop} {Q : Exit → Act → World → Prop}
    (h : wpList P ops (Exit.then K' Q) [o] a w) (hk : ∀ a w, K' a w → K a w) : wpList P ops (Exit.then K Q) [o] a w := by
  unfold wpList at *
  split at h
  · rename_i hw
    rw [if_pos hw]
    rcases h with h | h
    · exact .inl (wp_then2 h hk)
    · exact .inr h
  · rename_i hw
    rw [if_neg hw]
    exact hk _ _ h

theorem stepsR_J {P : Program} {ops : Array Oper} {Q : Exit → Act → World → Prop} {arr : (Nat → Value) → Array Value} {slots : List Nat} {R : Nat → Value → World → Prop} {W0 : World} (n : Nat)
    (hnd : slots.Nodup) (hlen : slots.length = n) (hst : ∀ k v w w', Below w.heap.size w w' → R k v w → R k v w') :
    ∀ (l : List Oper) (k : Nat), k + l.length = n → (∀ o ∈ l, ∀ e ∈ o.after.toList, Region.binds .any e = true → e.on < n) → stepsR P ops Q arr slots R W0 k l → stepsOk P ops Q (RJ n arr slots R W0) k l := by
  intro l
  induction l with
  | nil => intro k _ _ _; trivial
  | cons o r ih =>
    intro k hk he h
    simp only [List.length_cons] at hk
    refine ⟨?_, ih (k + 1) (by omega) (fun o' ho' => he o' (List.mem_cons_of_mem _ ho')) h.2⟩
    rintro d a w hd hdep ⟨x, rfl, hb, hR⟩
    have hstep := h.1 x w hb (fun e hem hbd => hR e.on (he o List.mem_cons_self e hem hbd) (hdep e hem hbd))
    refine wpList_imp1 hstep ?_
    rintro a' w' ⟨v, rfl, hv, hbw⟩
    refine ⟨updV x (slots.getD k 0) v, rfl, hb.trans (hbw.mono hb.size), fun j hj hdj => ?_⟩
    by_cases e : j = k
    · subst e; rw [updV_same]; exact hv
    · rw [updB_ne _ _ _ e] at hdj
      have hne : slots.getD j 0 ≠ slots.getD k 0 := by
        rw [List.getD_eq_getElem?_getD, List.getD_eq_getElem?_getD, List.getElem?_eq_getElem (by omega), List.getElem?_eq_getElem (by omega)]
        simp only [Option.getD_some]
        intro heq
        exact e ((List.getElem_inj hnd).1 heq)
      rw [updV_ne _ _ _ _ hne]
      exact hst _ _ _ _ hbw (hR j hj hdj)

theorem wp_region_R {P : Program} {id : Nat} {ops : Array Oper} {Q : Exit → Act → World → Prop} {a : Act} {w : World} (hm : P.follows .mixedOrders = true) (ha : aheadB ops = true)
    (arr : (Nat → Value) → Array Value) (slots : List Nat) (R : Nat → Value → World → Prop) (W0 : World)
    (hnd : slots.Nodup) (hlen : slots.length = ops.size) (hst : ∀ k v w w', Below w.heap.size w w' → R k v w → R k v w')
    (h0 : a = { tmps := arr (fun i => a.tmps.getD i undef), defers := [] }) (hW : Below W0.heap.size W0 w)
    (hs : stepsR P ops Q arr slots R W0 0 ops.toList)
    (hf : ∀ (x : Nat → Value) (w : World), Below W0.heap.size W0 w → (∀ k, k < ops.size → R k (x (slots.getD k 0)) w) → Q .normal { tmps := arr x, defers := [] } w) :
    (Code.region id ops true).wp P Q a w := by
  obtain ⟨x0, hx0⟩ : ∃ x0 : Nat → Value, (fun i => a.tmps.getD i undef) = x0 := ⟨_, rfl⟩
  rw [hx0] at h0
  clear hx0
  subst h0
  refine wp_region_J hm ha (RJ ops.size arr slots R W0) ⟨x0, rfl, hW.drew, fun k _ h => by cases h⟩ ?_ ?_
  · refine stepsR_J ops.size hnd hlen hst ops.toList 0 (by simp) ?_ hs
    intro o ho e he hb
    obtain ⟨i, hi, rfl⟩ := List.getElem_of_mem ho
    have := ahead_spec ha (i := i) (o := ops.toList[i]) (by rw [← Array.getElem?_toList]; exact List.getElem?_eq_getElem hi) e he hb
    rw [Array.length_toList] at hi
    omega
  · rintro a w ⟨x, rfl, hb, hR⟩
    exact hf x w hb fun k hk => hR k hk (by simpa using hk)

end Go.Proofs.YtafconpneeggiaaDoor
