/- GChunk: the texts Chunk Chunk2, one behind the other. No condition but what each lemma says. -/
import Derived.RangeFuncNested
import Derived.RangeFuncBound
import Derived.RangeFuncCalls
import Derived.RangeFuncLeaves
import Derived.Shelf.Abstract
import Derived.Shelf.RegionOpen
import Derived.OwnWalkIn
import Derived.TacticsInMore
import Derived.LoopNIn
import Derived.LoopIn
import Derived.Test.YtbedjionhmaafaaGreatDoorGBase
import Derived.Test.YtbedjionhmaafaaGreatDoorProg
import Derived.KernelRfl
import Derived.RowKit
import GoSem.Claim
import GoSem.ClaimJoined
set_option linter.all false
namespace Go.Proofs.YtbedjionhmaafaaGreatDoor
open Go.RowKit Go.Shelf
variable {sb nb:Nat} {A B:World}
attribute [local go_sem] Oper.semAt_some
def xF (b o W x:Nat):Value:= .slice (some ⟨b,o+x*W,none⟩) W W
structure KeepTwo (sb nb:Nat) (W W':World):Prop where
 s:W'.heap[sb]?=W.heap[sb]?
 n:W'.heap[nb]?=W.heap[nb]?
theorem KeepTwo.refl (sb nb:Nat) (W:World):KeepTwo sb nb W W:=⟨rfl,rfl⟩
theorem KeepTwo.trans {sb nb:Nat} {A B C:World} (h:KeepTwo sb nb A B) (k:KeepTwo sb nb B C):KeepTwo sb nb A C:=⟨k.s.trans h.s,k.n.trans h.n⟩
theorem KeepTwo.drew (h:KeepTwo sb nb A B):KeepTwo sb nb A B.drew:=⟨h.s,h.n⟩
theorem KeepTwo.cs (h:KeepTwo sb nb A B):B.cell? ⟨sb,0,none⟩=A.cell? ⟨sb,0,none⟩:=World.cell?_of_block h.s
theorem KeepTwo.cn (h:KeepTwo sb nb A B):B.cell? ⟨nb,0,none⟩=A.cell? ⟨nb,0,none⟩:=World.cell?_of_block h.n
set_option maxRecDepth 100000 in
set_option maxHeartbeats 4000000 in
theorem JF (F:Fence) (n:Nat) (h45:F.fn 432) (hro:F.round=none) (hn:1≤n) (l sb nb b o cp m W:Nat) (a:Option Addr) (ha:0<m→a=some ⟨b,o,none⟩) (hW:1≤W) (hW4:W≤4) (hm:m≤1000000) (hcp:m*W≤cp) (_:cp≤maxLen) (J Jx:List Nat→World→Prop)
 (hJd:∀pre w,J pre w→J pre w.drew)
 (hY:∀pre x Wd,x<m→J pre Wd→pre.length<m→YieldAt F (n-1) Tryz.prog l #[xF b o W x] Wd fun e W'=>
   (e= .returned (.bool true)∧J (pre++[x]) W'∧KeepTwo sb nb Wd W')∨(e= .returned (.bool false)∧Jx (pre++[x]) W'))
 (w:World) (hs:w.cell? ⟨sb,0,none⟩=some (.slice a (m*W) cp)) (hnb:w.cell? ⟨nb,0,none⟩=some (.int .i64 W)) (h0:J [] w):
 CallsIn F n Tryz.prog 432 #[.func (.yield l) #[] #[],.pointer (some ⟨sb,0,none⟩),.pointer (some ⟨nb,0,none⟩)] w fun e W'=>(∃v,e= .returned v)∧
  ((∃ys,ys=List.range m∧J ys W')∨(∃pre,pre<+:List.range m∧Jx pre W')):=by
 refine callsIn_of_wp Tryz.func432 rfl h45 ?_ hro
 simp only[Tryz.ntmps432,List.size_toArray,D9,Ax,Nat.reduceAdd,Nat.reduceSub,Array.replicate_succ,Array.replicate_zero,List.push_toArray,List.append_toArray,Ap,Ak]
 obtain⟨N,hN⟩:∃N,m*W=N:=⟨_,rfl⟩
 rw[hN] at hs hcp
 have HN:=Zh hN;clear hN
 have hN6:N≤4000000:=by rw[←HN.out];exact Bi (D2 m hW4) Aa
 have hb0:KeepTwo sb nb w w:=KeepTwo.refl _ _ _
 gi_wp2
 gi_loopw [4] (fun i wr=>∃(j ii:Nat),i= .int .i64 ii∧Hid (ii=j*W)∧j≤m∧ii≤N∧J (List.range j) wr∧KeepTwo sb nb w wr) (fun i _=>N-(intOf i).toNat)
 case atStart=>exact⟨0,0,rfl,Zh Aa,Aa,Aa,h0,hb0⟩
 case round=>
  obtain⟨j,ii,rfl,hii,hj,hiN,hJs,hbr⟩:=hrel
  have hs1:=hbr.cs.trans hs
  have hn1:=hbr.cn.trans hnb
  by_cases hlt:ii<N
  ·have d:decide ((ii:Int)<(N:Int))=true:=by rw[A2];omega
   have hrest:ii+W≤N:=by
    have h1:=hii.out;have h2:=HN.out
    have h3:j<m:=by
     rcases Nat.lt_or_ge j m with h|h
     ·exact h
     ·grind
    have h4:(j+1)*W≤m*W:=Ce W h3
    rw[C7,Dp] at h4
    omega
   have hjlt:j<m:=by
    rcases Nat.lt_or_ge j m with h|h
    ·exact h
    ·exact Bg (Ce W h) (by have h1:=hii.out;have h2:=HN.out;omega)
   obtain rfl:=ha Aa
   have hpre:List.range j++[j]<+:List.range m:=by
    rw[←Dm]
    refine⟨(List.range (m-(j+1))).map (j+1+ ·),?_⟩
    rw[←List.range_add]
    congr 1;omega
   have e1:(0:Int)≤(ii:Int):=Aa
   have e2:(ii:Int)≤(N:Int):=Aa
   have e3:(N:Int)≤(cp:Int):=Aa
   have e4:(ii:Int)≤(cp:Int):=Aa
   have hy0:=hY (List.range j) j wr.drew hjlt (hJd _ _ hJs) (by grind)
   unfold xF at hy0
   rw[←hii.out] at hy0
   obtain⟨fn,tmps,assign,body,hy,hR⟩:=hy0
   have HR:=Zh hR;clear hR hY
   gi_wp2
   gi_region
   all_goals gi_wp2
   all_goals(refine HR.out.mono ?_)
   all_goals rintro e W3 (⟨rfl,hJ3,hk3⟩|⟨rfl,hJx3⟩)
   all_goals first
    |(have hn3:W3.cell? ⟨nb,0,none⟩=some (.int .i64 W):=hk3.cn.trans hn1
      gi_wp2
      go_roundw
      case rel=>exact⟨j+1,ii+W,by go_num,Zh (by rw[C7,Dp,←hii.out]),hjlt,hrest,by rw[Dm];exact hJ3,hbr.drew.trans hk3⟩
      case measure=>simp[intOf];omega)
    |(gi_wp2
      refine bodyPost_ret (results_none rfl _ _ _) rfl ?_
      grind)
  ·have hjm:j=m:=by
    have h1:=hii.out;have h2:=HN.out
    have:ii=N:=Aa
    rw[h1] at this
    rw[←h2] at this
    exact Nat.eq_of_mul_eq_mul_right Aa this
   have d:decide ((ii:Int)<(N:Int))=false:=by rw[Ar];omega
   gi_wp2
   go_end0
   grind
theorem mC (F:Fence) (n:Nat) (s:F.fn 432) (t:F.round=none) (O:1≤n) (sb nb b o i m W:Nat) (a:Option Addr) (H:0<m→a=some ⟨b,o,none⟩) (R:1≤W) (k:W≤4) (L:m≤1000000) (u:m*W≤i) (g:i≤maxLen)
 (w:World) (z:w.cell? ⟨sb,0,none⟩=some (.slice a (m*W) i)) (c:w.cell? ⟨nb,0,none⟩=some (.int .i64 W)):
 SeqStopsK F n Tryz.prog 432 #[.pointer (some ⟨sb,0,none⟩),.pointer (some ⟨nb,0,none⟩)] (fun x:Fin m=>#[xF b o W x.1]) (KeepTwo sb nb) (fun xs=>xs.map Fin.val=List.range m) (fun _=>True) m w:=
 fun l J E I d Q T P N=>by
  have U:=JF F n s t O l sb nb b o i m W a H R k L u g (fun pre f=>∃q:List (Fin m),q.map Fin.val=pre∧J q f) (fun pre f=>∃q:List (Fin m),q.map Fin.val=pre∧E q f)
   (fun pre v ⟨q,y,j⟩=>⟨q,y,Q q v v.drew none j ⟨rfl,rfl,rfl,At _,fun _ _ _=>rfl⟩ (fun r e=>by cases e)⟩)
   (fun pre x K M ⟨q,y,j⟩ V=>(P q ⟨x,M⟩ K j (by grind)).mono fun e f h=>by
     grind) I
   ((d.cell (p:=⟨sb,0,none⟩) (G4 z)).trans z) ((d.cell (p:=⟨nb,0,none⟩) (G4 c)).trans c) ⟨[],rfl,N⟩
  refine U.mono fun e f ⟨C,X⟩=>⟨C,?_⟩
  grind
end Go.Proofs.YtbedjionhmaafaaGreatDoor
