/- The walk of slices.Chunk over bytes: it makes the iterator. The unit's length is at least 1. -/
import Derived.Test.YtafconpneeggiaaDoorBase
import Derived.Test.YtafconpneeggiaaDoorRows
namespace Go.Proofs.YtafconpneeggiaaDoor
open Go.RowKit

set_option maxRecDepth 100000 in
theorem chunkMk_any (v : Value) (W : Nat) (hW : 1 ≤ W) (hW4 : W ≤ 4) (hv : ∃ a n c, v = .slice a n c) (w : World) :
    Calls Tryd.prog 32 #[v, .int .i64 W] w fun e w' => e = .returned (.func (.func 45) #[] #[.pointer (some ⟨w.heap.size, 0, none⟩), .pointer (some ⟨w.heap.size + 1, 0, none⟩)]) ∧
      w' = (w.alloc (.cells #[v] 31)).alloc (.cells #[.int .i64 W] 3) := by
  obtain ⟨a, n, c, rfl⟩ := hv
  have d : decide ((W : Int) < 1) = false := by rw [decide_eq_false_iff_not]; omega
  have hmf : ∀ (fn : Fn) (first cap : Array Value) (w : World), (Instr.makeFunc fn first cap).run Tryd.prog w = .ok (.func fn first cap) w := fun _ _ _ _ => rfl
  go_enter Tryd.func32, Tryd.ntmps32
  go_wp2
  go_ret
  exact ⟨rfl, rfl⟩

end Go.Proofs.YtafconpneeggiaaDoor
