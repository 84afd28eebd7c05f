/- GRange: the texts Range, one behind the other. No condition but what each lemma says. -/
import Derived.Test.YtaoahmplnckhpaaGreatDoorGBase
namespace Go.Proofs.YtaoahmplnckhpaaGreatDoor
open Go.RowKit
open Go.Lib (validD decodeL)
theorem J2 {P:Program} {w:World} {b:Nat} {s:ByteArray} {p:Nat} (ty:TypeId) (hi:w.heap[b]?=some (.stringIter s p)) (h:p<s.size):
 ∃w2,(Instr.next (.pointer (some ⟨b,0,none⟩)) true ty).run P w= .ok (.tuple #[.bool true,.int .i64 p,.int .i32 (Utf8.decode s p).1]) w2∧
  w2.heap[b]?=some (.stringIter s (p+(Utf8.decode s p).2))∧(∀k,k≠b→w2.heap[k]?=w.heap[k]?)∧w2.heap.size=w.heap.size∧w2.os=w.os∧w2.tape=w.tape∧w2.output=w.output:=by
 have hb:b<w.heap.size:=(Array.getElem?_eq_some_iff.1 hi).1
 refine⟨{w with heap:=w.heap.setIfInBounds b (.stringIter s (p+(Utf8.decode s p).2))},?_,?_,?_,?_,rfl,rfl,rfl⟩
 ·simp only[Instr.next,getObj,setObj,Sem.run_bind,Sem.run,hi,Result.andThen,h,if_true]
  simp[goInt]
 ·simp[hb]
 ·intro k hk
  simp only[Array.getElem?_setIfInBounds]
  rw[if_neg (by omega)]
 ·simp
theorem H0 {P:Program} {w:World} {b:Nat} {s:ByteArray} {p:Nat} (ty:TypeId) (hi:w.heap[b]?=some (.stringIter s p)) (h:¬p<s.size):
 (Instr.next (.pointer (some ⟨b,0,none⟩)) true ty).run P w= .ok (.tuple #[.bool false]) w:=by
 simp[Instr.next,getObj,Sem.run,hi,h]
theorem Do {B b:Nat} {w0 w w2:World} (hb:Below B w0 w) (hB:B≤b) (h1:∀k,k≠b→w2.heap[k]?=w.heap[k]?) (h2:w2.heap.size=w.heap.size) (h3:w2.os=w.os) (h4:w2.tape=w.tape) (h5:w2.output=w.output):Below B w0 w2:=
 hb.trans ⟨h3,h4,h5,by omega,fun k hk=>h1 k (by omega)⟩
theorem Xg (s:ByteArray) (i:Nat):Utf8.decode s i=decodeL (s.data.toList.drop i):=by
 have hg:∀j,(s.get! j).toNat=(s.data.toList.getD j 0).toNat:=by
  intro j
  congr 1
  show s.data[j]! =_
  rw[List.getD_eq_getElem?_getD,Array.getElem?_toList,getElem!_def]
  cases s.data[j]?<;>rfl
 rw[Lib.decode_at,Lib.decodeL_N]
 have hl:(s.data.toList.drop i).length=s.size-i:=by rw[Aw,Array.length_toList];rfl
 have hd:∀k,((s.data.toList.drop i).getD k 0)=s.data.toList.getD (i+k) 0:=by
  intro k;simp[List.getD_eq_getElem?_getD]
 rw[hl,hd,hd,hd,hd,hg,hg,hg,hg]
 rfl
def Ex (l:List UInt8) (j:Nat):Nat:=(((rns l).take j).flatMap enc).length
theorem Qg (l:List UInt8):Ex l 0=0:=by simp[Ex]
theorem Th (l:List UInt8) (hv:validD l=true) (j:Nat) (hj:(rns l).length≤j):Ex l j=l.length:=by
 unfold Ex;rw[List.take_of_length_le hj,G3 l hv]
theorem Qh (s:ByteArray) (hv:validD s.data.toList=true) (j:Nat) (hj:j<(rns s.data.toList).length):
 Ex s.data.toList j<s.size∧Utf8.decode s (Ex s.data.toList j)=((rns s.data.toList).getD j 0,(enc ((rns s.data.toList).getD j 0)).length)∧
  Ex s.data.toList (j+1)=Ex s.data.toList j+(enc ((rns s.data.toList).getD j 0)).length:=by
 obtain⟨l,hl⟩:∃l,s.data.toList=l:=⟨_,rfl⟩
 have hsz:s.size=l.length:=by rw[←hl,Array.length_toList];rfl
 rw[Xg,hsz]
 rw[hl] at hv hj⊢
 have hf:=G3 l hv
 have hx:(rns l).getD j 0=(rns l)[j]:=by rw[List.getD_eq_getElem?_getD,Ak hj];rfl
 have hsplit:rns l=(rns l).take j++(rns l)[j]::(rns l).drop (j+1):=by
  rw[←List.drop_eq_getElem_cons hj,List.take_append_drop]
 have hl2:l=((rns l).take j).flatMap enc++(enc (rns l)[j]++((rns l).drop (j+1)).flatMap enc):=by
  rw[←List.flatMap_cons,←List.flatMap_append,←hsplit,hf]
 have hd:l.drop (Ex l j)=enc (rns l)[j]++((rns l).drop (j+1)).flatMap enc:=by
  unfold Ex
  conv=>lhs;arg 2;rw[hl2]
  rw[List.drop_left]
 have hsc:=Jv l hv _ (List.getElem_mem hj)
 have hlen:=(E2 (rns l)[j]).1
 refine⟨?_,?_,?_⟩
 ·have:=congrArg List.length hd
  rw[Aw,Aj] at this
  omega
 ·rw[hd,hx,Jt _ hsc]
 ·rw[hx]
  unfold Ex
  rw[List.take_succ_eq_append_getElem hj,List.flatMap_append,Aj]
  simp
theorem zV (l:List UInt8) (hv:validD l=true):(rns l).length≤l.length:=by
 have h:=G3 l hv
 have:∀xs:List Nat,xs.length≤(xs.flatMap enc).length:=by
  intro xs
  induction xs with
  |nil=>simp
  |cons x xs ih=>rw[List.flatMap_cons,Aj,Ag];have:=(E2 x).1;omega
 have:=this (rns l)
 rw[h] at this
 exact this
end Go.Proofs.YtaoahmplnckhpaaGreatDoor
