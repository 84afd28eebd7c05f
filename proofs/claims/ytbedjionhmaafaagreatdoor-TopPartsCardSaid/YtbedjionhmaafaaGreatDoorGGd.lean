/- GGd: the texts Gd, one behind the other. No condition but what each lemma says. -/
import Derived.Test.YtbedjionhmaafaaGreatDoorGBase
import Derived.Test.YtbedjionhmaafaaGreatDoorProg
import Derived.Lib.LaidTab
import Derived.Lib.ItoaNum
import Derived.Shelf.Unicode.DecodeSlow
set_option linter.all false
namespace Go.Proofs.YtbedjionhmaafaaGreatDoor
open Go.RowKit
def CP (g:Nat) (w:World):Prop:=∃ev,w.cell? ⟨g,0,none⟩=some ev∧(ev= .nilIface∨∃te pe,ev= .iface te pe)
theorem CP.below {g:Nat} {w w':World} (d:Below w.heap.size w w') (h:CP g w):CP g w':=by
 obtain⟨c,a,b⟩:=h
 exact⟨c,(d.cell (World.block_lt_of_cell? w _ a)).trans a,b⟩
theorem lW {P:Program} {n:String} {g:Nat} {k:IntKind} {c:List Int} {w w':World} (d:P.globalNamed n=some g) (h:Lib.TabIs P w n k c) (e:Below w.heap.size w w'):Lib.TabIs P w' n k c:=by
 unfold Lib.TabIs World.var? at h⊢
 rw[d] at h⊢
 simp only[Option.bind_some] at h⊢
 have a:g<w.heap.size:=by
  rcases Nat.lt_or_ge g w.heap.size with b|b
  ·exact b
  ·grind
 rw[e.block g a]
 exact h
structure Gd (w:World):Prop where
 tabs:Lib.Utf8Tabs 6 7 w
 pow:Lib.TabIs Tryz.prog w "internal/strconv.uint64pow10" .u64 Lib.pow10Tab
 syn:CP 2 w
 rng:CP 3 w
 ml:∃m,w.cell? ⟨1,0,none⟩=some (.int .i64 m)
theorem Gd.below {w w':World} (a:Below w.heap.size w w') (h:Gd w):Gd w':=
 ⟨Utf8Tabs_below h.tabs a,lW (g:=0) Ac h.pow a,h.syn.below a,h.rng.below a,h.ml.elim fun m b=>⟨m,(a.cell (World.block_lt_of_cell? w _ b)).trans b⟩⟩
end Go.Proofs.YtbedjionhmaafaaGreatDoor
