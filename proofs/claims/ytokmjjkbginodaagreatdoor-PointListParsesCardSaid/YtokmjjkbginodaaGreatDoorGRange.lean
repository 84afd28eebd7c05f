/- GRange: the texts Range, one behind the other. No condition but what each lemma says. -/
import Derived.Test.YtokmjjkbginodaaGreatDoorGBase
namespace Go.Proofs.YtokmjjkbginodaaGreatDoor
open Go.RowKit
open Go.Lib (validD decodeL)
theorem Mg {P:Program} {w:World} {b:Nat} {s:ByteArray} {p:Nat} (ty:TypeId) (hi:w.heap[b]?=some (.stringIter s p)) (h:p<s.size):
 ∃w2,(Instr.next (.pointer (some ⟨b,0,none⟩)) true ty).run P w= .ok (.tuple #[.bool true,.int .i64 p,.int .i32 (Utf8.decode s p).1]) w2∧
  w2.heap[b]?=some (.stringIter s (p+(Utf8.decode s p).2))∧(∀k,k≠b→w2.heap[k]?=w.heap[k]?)∧w2.heap.size=w.heap.size∧w2.os=w.os∧w2.tape=w.tape∧w2.output=w.output:=by
 have hb:b<w.heap.size:=(Array.getElem?_eq_some_iff.1 hi).1
 refine⟨{w with heap:=w.heap.setIfInBounds b (.stringIter s (p+(Utf8.decode s p).2))},?_,?_,?_,?_,rfl,rfl,rfl⟩
 ·simp only[Instr.next,getObj,setObj,Sem.run_bind,Sem.run,hi,Result.andThen,h,if_true]
  simp[goInt]
 ·simp[hb]
 ·intro k hk
  simp only[Array.getElem?_setIfInBounds]
  rw[if_neg (by omega)]
 ·simp
theorem J5 {P:Program} {w:World} {b:Nat} {s:ByteArray} {p:Nat} (ty:TypeId) (hi:w.heap[b]?=some (.stringIter s p)) (h:¬p<s.size):
 (Instr.next (.pointer (some ⟨b,0,none⟩)) true ty).run P w= .ok (.tuple #[.bool false]) w:=by
 simp[Instr.next,getObj,Sem.run,hi,h]
theorem Ek {B b:Nat} {w0 w w2:World} (hb:Below B w0 w) (hB:B≤b) (h1:∀k,k≠b→w2.heap[k]?=w.heap[k]?) (h2:w2.heap.size=w.heap.size) (h3:w2.os=w.os) (h4:w2.tape=w.tape) (h5:w2.output=w.output):Below B w0 w2:=
 hb.trans ⟨h3,h4,h5,by omega,fun k hk=>h1 k (by omega)⟩
theorem cS (s:ByteArray) (i:Nat):Utf8.decode s i=decodeL (s.data.toList.drop i):=by
 have hg:∀j,(s.get! j).toNat=(s.data.toList.getD j 0).toNat:=by
  intro j
  congr 1
  show s.data[j]! =_
  rw[List.getD_eq_getElem?_getD,Array.getElem?_toList,getElem!_def]
  cases s.data[j]?<;>rfl
 rw[Lib.decode_at,Lib.decodeL_N]
 have hl:(s.data.toList.drop i).length=s.size-i:=by rw[Az,Array.length_toList];rfl
 have hd:∀k,((s.data.toList.drop i).getD k 0)=s.data.toList.getD (i+k) 0:=by
  intro k;simp[List.getD_eq_getElem?_getD]
 rw[hl,hd,hd,hd,hd,hg,hg,hg,hg]
 rfl
def F8 (l:List UInt8) (j:Nat):Nat:=(((rns l).take j).flatMap enc).length
theorem Ua (l:List UInt8):F8 l 0=0:=by simp[F8]
theorem X3 (l:List UInt8) (hv:validD l=true) (j:Nat) (hj:(rns l).length≤j):F8 l j=l.length:=by
 unfold F8;rw[List.take_of_length_le hj,Iz l hv]
theorem Ub (s:ByteArray) (hv:validD s.data.toList=true) (j:Nat) (hj:j<(rns s.data.toList).length):
 F8 s.data.toList j<s.size∧Utf8.decode s (F8 s.data.toList j)=((rns s.data.toList).getD j 0,(enc ((rns s.data.toList).getD j 0)).length)∧
  F8 s.data.toList (j+1)=F8 s.data.toList j+(enc ((rns s.data.toList).getD j 0)).length:=by
 obtain⟨l,hl⟩:∃l,s.data.toList=l:=⟨_,rfl⟩
 have hsz:s.size=l.length:=by rw[←hl,Array.length_toList];rfl
 rw[cS,hsz]
 rw[hl] at hv hj⊢
 have hf:=Iz l hv
 have hx:(rns l).getD j 0=(rns l)[j]:=by rw[List.getD_eq_getElem?_getD,Am hj];rfl
 have hsplit:rns l=(rns l).take j++(rns l)[j]::(rns l).drop (j+1):=by
  rw[←List.drop_eq_getElem_cons hj,List.take_append_drop]
 have hl2:l=((rns l).take j).flatMap enc++(enc (rns l)[j]++((rns l).drop (j+1)).flatMap enc):=by
  rw[←List.flatMap_cons,←List.flatMap_append,←hsplit,hf]
 have hd:l.drop (F8 l j)=enc (rns l)[j]++((rns l).drop (j+1)).flatMap enc:=by
  unfold F8
  conv=>lhs;arg 2;rw[hl2]
  rw[List.drop_left]
 have hsc:=Km l hv _ (List.getElem_mem hj)
 have hlen:=(Gf (rns l)[j]).1
 refine⟨?_,?_,?_⟩
 ·have:=congrArg List.length hd
  rw[Az,Ap] at this
  omega
 ·rw[hd,hx,L9 _ hsc]
 ·rw[hx]
  unfold F8
  rw[List.take_succ_eq_append_getElem hj,List.flatMap_append,Ap]
  simp
theorem KG (l:List UInt8) (hv:validD l=true):(rns l).length≤l.length:=by
 have h:=Iz l hv
 have:∀xs:List Nat,xs.length≤(xs.flatMap enc).length:=by
  intro xs
  induction xs with
  |nil=>simp
  |cons x xs ih=>rw[List.flatMap_cons,Ap,Ag];have:=(Gf x).1;omega
 have:=this (rns l)
 rw[h] at this
 exact this
end Go.Proofs.YtokmjjkbginodaaGreatDoor
