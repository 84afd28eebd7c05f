/- GChunk: the texts Chunk, one behind the other. No condition but what each lemma says. -/
import Derived.RangeFuncNested
import Derived.RangeFuncBound
import Derived.RangeFuncCalls
import Derived.RangeFuncLeaves
import Derived.Shelf.Abstract
import Derived.Shelf.RegionOpen
import Derived.OwnWalkIn
import Derived.TacticsInMore
import Derived.LoopNIn
import Derived.LoopIn
import Derived.Test.YtokmjjkbginodaaGreatDoorGBase
import Derived.Test.YtokmjjkbginodaaGreatDoorRows
namespace Go.Proofs.YtokmjjkbginodaaGreatDoor
open Go.RowKit Go.Shelf
attribute [local go_sem] Oper.semAt_some
def cU (b o W x:Nat):Value:= .slice (some ⟨b,o+x*W,none⟩) W W
structure KeepTwo (sb nb:Nat) (W W':World):Prop where
 s:W'.heap[sb]?=W.heap[sb]?
 n:W'.heap[nb]?=W.heap[nb]?
theorem KeepTwo.refl (sb nb:Nat) (W:World):KeepTwo sb nb W W:=⟨rfl,rfl⟩
theorem KeepTwo.trans {sb nb:Nat} {A B C:World} (h:KeepTwo sb nb A B) (k:KeepTwo sb nb B C):KeepTwo sb nb A C:=⟨k.s.trans h.s,k.n.trans h.n⟩
theorem KeepTwo.drew {sb nb:Nat} {A B:World} (h:KeepTwo sb nb A B):KeepTwo sb nb A B.drew:=⟨h.s,h.n⟩
theorem KeepTwo.cs {sb nb:Nat} {A B:World} (h:KeepTwo sb nb A B):B.cell? ⟨sb,0,none⟩=A.cell? ⟨sb,0,none⟩:=World.cell?_of_block h.s
theorem KeepTwo.cn {sb nb:Nat} {A B:World} (h:KeepTwo sb nb A B):B.cell? ⟨nb,0,none⟩=A.cell? ⟨nb,0,none⟩:=World.cell?_of_block h.n
set_option maxRecDepth 100000 in
set_option maxHeartbeats 4000000 in
theorem wA (F:Fence) (n:Nat) (h45:F.fn 244) (hro:F.round=none) (hn:1≤n) (l sb nb b o cp m W:Nat) (a:Option Addr) (ha:0<m→a=some ⟨b,o,none⟩) (hW:1≤W) (hW4:W≤4) (hm:m≤1000000) (hcp:m*W≤cp) (_:cp≤maxLen) (J Jx:List Nat→World→Prop)
 (hJd:∀pre w,J pre w→J pre w.drew)
 (hY:∀pre x Wd,x<m→J pre Wd→pre.length<m→YieldAt F (n-1) Tryz.prog l #[cU b o W x] Wd fun e W'=>
   (e= .returned (.bool true)∧J (pre++[x]) W'∧KeepTwo sb nb Wd W')∨(e= .returned (.bool false)∧Jx (pre++[x]) W'))
 (w:World) (hs:w.cell? ⟨sb,0,none⟩=some (.slice a (m*W) cp)) (hnb:w.cell? ⟨nb,0,none⟩=some (.int .i64 W)) (h0:J [] w):
 CallsIn F n Tryz.prog 244 #[.func (.yield l) #[] #[],.pointer (some ⟨sb,0,none⟩),.pointer (some ⟨nb,0,none⟩)] w fun e W'=>(∃v,e= .returned v)∧
  ((∃ys,ys=List.range m∧J ys W')∨(∃pre,pre<+:List.range m∧Jx pre W')):=by
 refine callsIn_of_wp Tryz.func244 rfl h45 ?_ hro
 simp only[Tryz.ntmps244,List.size_toArray,Ag,List.length_nil,Nat.reduceAdd,Nat.reduceSub,Array.replicate_succ,Array.replicate_zero,List.push_toArray,List.append_toArray,List.nil_append,List.cons_append]
 obtain⟨N,hN⟩:∃N,m*W=N:=⟨_,rfl⟩
 rw[hN] at hs hcp
 have HN:=Zh hN;clear hN
 have hN6:N≤4000000:=by rw[←HN.out];exact Nat.le_trans (Nat.mul_le_mul_left m hW4) (by omega)
 have hb0:KeepTwo sb nb w w:=KeepTwo.refl _ _ _
 gi_wp2
 gi_loopw [4] (fun i wr=>∃(j ii:Nat),i= .int .i64 ii∧Hid (ii=j*W)∧j≤m∧ii≤N∧J (List.range j) wr∧KeepTwo sb nb w wr) (fun i _=>N-(intOf i).toNat)
 case atStart=>exact⟨0,0,rfl,Zh (by omega),by omega,by omega,h0,hb0⟩
 case round=>
  obtain⟨j,ii,rfl,hii,hj,hiN,hJs,hbr⟩:=hrel
  have hs1:=hbr.cs.trans hs
  have hn1:=hbr.cn.trans hnb
  by_cases hlt:ii<N
  ·have d:decide ((ii:Int)<(N:Int))=true:=by rw[decide_eq_true_iff];omega
   have hrest:ii+W≤N:=by
    have h1:=hii.out;have h2:=HN.out
    have h3:j<m:=by
     rcases Nat.lt_or_ge j m with h|h
     ·exact h
     ·have:m*W≤j*W:=Nat.mul_le_mul_right W h
      omega
    have h4:(j+1)*W≤m*W:=Nat.mul_le_mul_right W h3
    rw[Nat.add_mul,Nat.one_mul] at h4
    omega
   have hjlt:j<m:=by
    rcases Nat.lt_or_ge j m with h|h
    ·exact h
    ·exact absurd (Nat.mul_le_mul_right W h) (by have h1:=hii.out;have h2:=HN.out;omega)
   obtain rfl:=ha (by omega)
   have hpre:List.range j++[j]<+:List.range m:=by
    rw[←List.range_succ]
    refine⟨(List.range (m-(j+1))).map (j+1+ ·),?_⟩
    rw[←List.range_add]
    congr 1;omega
   have e1:(0:Int)≤(ii:Int):=by omega
   have e2:(ii:Int)≤(N:Int):=by omega
   have e3:(N:Int)≤(cp:Int):=by omega
   have e4:(ii:Int)≤(cp:Int):=by omega
   have hy0:=hY (List.range j) j wr.drew hjlt (hJd _ _ hJs) (by rw[List.length_range];rcases Nat.lt_or_ge j m with h|h;exact h;exact absurd (Nat.mul_le_mul_right W h) (by have h1:=hii.out;have h2:=HN.out;omega))
   unfold cU at hy0
   rw[←hii.out] at hy0
   obtain⟨fn,tmps,assign,body,hy,hR⟩:=hy0
   have HR:=Zh hR;clear hR hY
   gi_wp2
   gi_region
   all_goals gi_wp2
   all_goals(refine HR.out.mono ?_)
   all_goals rintro e W3 (⟨rfl,hJ3,hk3⟩|⟨rfl,hJx3⟩)
   all_goals first
    |(have hn3:W3.cell? ⟨nb,0,none⟩=some (.int .i64 W):=hk3.cn.trans hn1
      gi_wp2
      go_roundw
      case rel=>exact⟨j+1,ii+W,by go_num,Zh (by rw[Nat.add_mul,Nat.one_mul,←hii.out]),hjlt,hrest,by rw[List.range_succ];exact hJ3,hbr.drew.trans hk3⟩
      case measure=>simp[intOf];omega)
    |(gi_wp2
      refine bodyPost_ret (results_none rfl _ _ _) rfl ?_
      exact⟨⟨_,rfl⟩,.inr ⟨List.range j++[j],hpre,hJx3⟩⟩)
  ·have hjm:j=m:=by
    have h1:=hii.out;have h2:=HN.out
    have:ii=N:=by omega
    rw[h1] at this
    rw[←h2] at this
    exact Nat.eq_of_mul_eq_mul_right (by omega) this
   have d:decide ((ii:Int)<(N:Int))=false:=by rw[decide_eq_false_iff_not];omega
   gi_wp2
   go_end0
   exact⟨⟨_,rfl⟩,.inl ⟨_,by rw[hjm],hJs⟩⟩
end Go.Proofs.YtokmjjkbginodaaGreatDoor
