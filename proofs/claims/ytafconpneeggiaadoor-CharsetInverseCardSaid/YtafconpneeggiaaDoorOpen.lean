/- A slice of bytes that came in: what it holds; that it reads as it did behind the call. No condition. -/
import Derived.Test.YtafconpneeggiaaDoorBase
import Derived.Test.YtafconpneeggiaaDoorRows
import Derived.ProofKit
import Derived.LaidMore
import Derived.OpenShut
import Derived.Lib.SmallJoins
import Derived.SevenTiedAt
import Derived.WideKeyArgs
namespace Go.Proofs.YtafconpneeggiaaDoor
open Go.ChangeShapes Go.WideShapes Go.ChangeAt Go.RowKit Go.Joins

theorem cellsByte : Tryd.prog.cellsOf 5 = 1 := by kernel_rfl
theorem laidB : laidOutB Tryd.prog = true := by kernel_rfl

section
variable {H : Type} {enc : TypeId × Value → H}
set_option maxRecDepth 100000 in
theorem open_rd {W : World} {base : Nat} {v1 : Value} {d1 : DataW H} {p1 : List MemPlace} (hval : Value.okWide Tryd.prog W .any base 31 v1) (h1 : DataW.Trod enc Tryd.prog W 0 (fun _ => true) true 31 v1 d1 p1) :
    ∃ l : List UInt8, RdBytes (fun _ => True) W v1 l := by
  obtain ⟨a1, len, cap, rfl⟩ := okWide_slice Tryd.underlying31 hval
  obtain ⟨fuel, hf⟩ := h1
  rcases open_ints Tryd.underlying31 Tryd.underlying5 cellsByte hf with ⟨hcs, hx⟩ | ⟨a, len', cap', zs, hcs, _, hl, hm, hz, hx, hcell, hwz⟩
  · simp [Value.cells] at hcs
    obtain ⟨rfl, rfl, rfl⟩ := hcs
    exact ⟨[], none, 0, rfl, Nat.le_refl _, Nat.zero_le _, ⟨rfl, fun _ => rfl⟩, fun i u hu => by simp [Lib.byteCells] at hu⟩
  · simp [Value.cells] at hcs
    obtain ⟨rfl, rfl, rfl⟩ := hcs
    simp only [if_true] at hz
    have hlen : ((zs.take len).map fun n => UInt8.ofNat n.toNat).length = len := by simp; omega
    refine ⟨(zs.take len).map fun n => UInt8.ofNat n.toNat, some a, cap, by rw [hlen], by rw [hlen]; exact hl, hm, ⟨by rw [byteCells_len, Nat.mul_one], fun h => by cases h⟩, fun i u hu => ?_⟩
    rw [byteCells_get] at hu
    have hi : i < len := by
      rcases Nat.lt_or_ge i len with h | h
      · exact h
      · rw [List.getElem?_eq_none (by rw [hlen]; exact h)] at hu; cases hu
    rw [List.getElem?_eq_getElem (by rw [hlen]; exact hi)] at hu
    obtain ⟨ab, ao, spot⟩ := a
    have hspot : spot = none := by simpa [Addr.add] using World.cell?_spot (hcell 0 (by omega))
    subst hspot
    refine ⟨ab, ao, rfl, trivial, ?_⟩
    have hcj := hcell i (by omega)
    rw [Addr.add_lit] at hcj
    rw [hcj, ← Option.some.inj hu]
    have hb := range_u8 hwz i
    have e : zs.getD i 0 = zs[i]'(by omega) := by simp [List.getD, List.getElem?_eq_getElem (show i < zs.length by omega)]
    rw [List.getD_eq_getElem?_getD] at e
    rw [e] at hb
    simp only [List.getElem_map, List.getElem_take]
    rw [List.getD_eq_getElem?_getD, e]
    congr 2
    simp only [UInt8.toNat_ofNat']
    omega
theorem stay_rd {W W' : World} {v1 : Value} {d1 : DataW H} {p1 : List MemPlace} (h1 : DataW.Trod enc Tryd.prog W 0 (fun _ => true) true 31 v1 d1 p1) (hb : Below W.heap.size W W') (hlt : ∀ x ∈ p1, x.block < W.heap.size) :
    DataW.Trod enc Tryd.prog W' 0 (fun x => decide (x < W.heap.size)) true 31 v1 d1 p1 :=
  WideElems.Trod_stays (P := Tryd.prog) laidB (by kernel_rfl) (of_decide_eq_true (by kernel_rfl)) h1 (fun x hx => hb.same (hlt x hx)) (fun x hx => by simpa using hlt x hx)
end
end Go.Proofs.YtafconpneeggiaaDoor
