/- GGd: the texts Gd, one behind the other. No condition but what each lemma says. -/
import Derived.Test.YtokmjjkbginodaaGreatDoorGBase
import Derived.Test.YtokmjjkbginodaaGreatDoorProg
import Derived.Lib.LaidTab
import Derived.Lib.ItoaNum
import Derived.Shelf.Unicode.DecodeSlow
namespace Go.Proofs.YtokmjjkbginodaaGreatDoor
open Go.RowKit
def rB (g:Nat) (w:World):Prop:=∃ev,w.cell? ⟨g,0,none⟩=some ev∧(ev= .nilIface∨∃te pe,ev= .iface te pe)
theorem rB.below {g:Nat} {w w':World} (hb:Below w.heap.size w w') (h:rB g w):rB g w':=by
 obtain⟨ev,h1,h2⟩:=h
 exact⟨ev,(hb.cell (World.block_lt_of_cell? w _ h1)).trans h1,h2⟩
theorem cQ {P:Program} {n:String} {g:Nat} {k:IntKind} {zs:List Int} {w w':World} (hg:P.globalNamed n=some g) (h:Lib.TabIs P w n k zs) (hb:Below w.heap.size w w'):Lib.TabIs P w' n k zs:=by
 unfold Lib.TabIs World.var? at h⊢
 rw[hg] at h⊢
 simp only[Option.bind_some] at h⊢
 have hlt:g<w.heap.size:=by
  rcases Nat.lt_or_ge g w.heap.size with h'|h'
  ·exact h'
  ·rw[Array.getElem?_eq_none h'] at h;cases h
 rw[hb.block g hlt]
 exact h
structure Gd (w:World):Prop where
 tabs:Lib.Utf8Tabs 0 1 w
 pow:Lib.TabIs Tryz.prog w "internal/strconv.uint64pow10" .u64 Lib.pow10Tab
 syn:rB 2 w
 rng:rB 3 w
 ml:∃m,w.cell? ⟨5,0,none⟩=some (.int .i64 m)
theorem Gd.below {w w':World} (hb:Below w.heap.size w w') (h:Gd w):Gd w':=
 ⟨Utf8Tabs_below h.tabs hb,cQ (g:=4) (by kernel_rfl) h.pow hb,h.syn.below hb,h.rng.below hb,h.ml.elim fun m hm=>⟨m,(hb.cell (World.block_lt_of_cell? w _ hm)).trans hm⟩⟩
end Go.Proofs.YtokmjjkbginodaaGreatDoor
