/- GChunk2: the texts Chunk2, one behind the other. No condition but what each lemma says. -/
import Derived.Test.YtokmjjkbginodaaGreatDoorGChunk
namespace Go.Proofs.YtokmjjkbginodaaGreatDoor
open Go.RowKit Go.Shelf
theorem Sk (F:Fence) (n:Nat) (h45:F.fn 244) (hro:F.round=none) (hn:1≤n) (sb nb b o cp m W:Nat) (a:Option Addr) (ha:0<m→a=some ⟨b,o,none⟩) (hW:1≤W) (hW4:W≤4) (hm:m≤1000000) (hcp:m*W≤cp) (hcp2:cp≤maxLen)
 (w:World) (hs:w.cell? ⟨sb,0,none⟩=some (.slice a (m*W) cp)) (hnb:w.cell? ⟨nb,0,none⟩=some (.int .i64 W)):
 SeqStopsK F n Tryz.prog 244 #[.pointer (some ⟨sb,0,none⟩),.pointer (some ⟨nb,0,none⟩)] (fun x:Fin m=>#[cU b o W x.1]) (KeepTwo sb nb) (fun xs=>xs.map Fin.val=List.range m) (fun _=>True) m w:=
 fun l J Jx W1 hW1 hJ hJx hY h0=>by
  have hz:=wA F n h45 hro hn l sb nb b o cp m W a ha hW hW4 hm hcp hcp2 (fun pre W'=>∃q:List (Fin m),q.map Fin.val=pre∧J q W') (fun pre W'=>∃q:List (Fin m),q.map Fin.val=pre∧Jx q W')
   (fun pre v ⟨q,hq,hj⟩=>⟨q,hq,hJ q v v.drew none hj ⟨rfl,rfl,rfl,Nat.le_refl _,fun _ _ _=>rfl⟩ (fun r e=>by cases e)⟩)
   (fun pre x Wd hx ⟨q,hq,hj⟩ hl=>(hY q ⟨x,hx⟩ Wd hj (by rw[←hq,List.length_map] at hl;exact hl)).mono fun e W' h=>by
     rcases h with⟨h1,h2,h3⟩|⟨h1,h2⟩
     ·exact .inl ⟨h1,⟨q++[⟨x,hx⟩],by rw[List.map_append,hq];rfl,h2⟩,h3⟩
     ·exact .inr ⟨h1,⟨q++[⟨x,hx⟩],by rw[List.map_append,hq];rfl,h2⟩⟩) W1
   ((hW1.cell (p:=⟨sb,0,none⟩) (Co hs)).trans hs) ((hW1.cell (p:=⟨nb,0,none⟩) (Co hnb)).trans hnb) ⟨[],rfl,h0⟩
  refine hz.mono fun e W' ⟨h1,h2⟩=>⟨h1,?_⟩
  rcases h2 with⟨ys,hys,q,hq,hj⟩|⟨pre,_,q,hq,hj⟩
  ·exact .inl ⟨q,hq.trans hys,hj⟩
  ·exact .inr ⟨q,trivial,hj⟩
end Go.Proofs.YtokmjjkbginodaaGreatDoor
