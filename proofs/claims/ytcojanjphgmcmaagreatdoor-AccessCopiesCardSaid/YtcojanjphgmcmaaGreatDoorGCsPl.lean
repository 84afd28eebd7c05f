/- GCsPl: the texts CsPl, one behind the other. No condition but what each lemma says. -/
import Derived.Test.YtcojanjphgmcmaaGreatDoorGUtf
import Derived.Test.YtcojanjphgmcmaaGreatDoorGBase
namespace Go.Proofs.YtcojanjphgmcmaaGreatDoor
open Go.RowKit
open Go.Lib (validD decodeL)
def Ai (k:Int):Int:=if k=12 then 0 else if k=28 then 4 else if k=30 then 2 else if k=19∨k=20∨k=22∨k=26 then 1 else-1
def oth:List Nat:=[32,39,40,41,43,44,45,46,47,58,61,63]
def prn (x:Nat):Bool:=decide ((48≤x∧x<58)∨(65≤x∧x<91)∨(97≤x∧x<123))||oth.contains x
def A5 (k:Int) (x:Nat):Bool:=
 if k=12∨k=28 then D3 x else if k=30 then D3 x&&decide (x<65536) else if k=22 then decide (x<128)
 else if k=26 then decide (32≤x∧x<127) else if k=20 then decide ((32≤x∧x<127)∨(160≤x∧x<256))
 else if k=19 then prn x else false
theorem Oa (x:Nat) (h:D3 x=true):∃m,(Cr x).length=m+1:=by
 have:=(Ff x).1
 unfold Cr;rw[if_pos h]
 exact⟨(enc x).length-1,by omega⟩
def Af (k:Int) (l:List UInt8):Bool:=validD l&& !decide (Ai k<0)&&(rns l).all (A5 k)
theorem R4 {k:Int} {l:List UInt8} (h:validD l=false):Af k l=false:=by unfold Af;rw[h];rfl
theorem K8 {k:Int} {l:List UInt8} (h:Ai k<0):Af k l=false:=by unfold Af;simp[h]
theorem Ql {k:Int} {l:List UInt8} {m:Nat} (h:m<(rns l).length) (hh:A5 k ((rns l).getD m 0)=false):Af k l=false:=by
 have:(rns l).all (A5 k)=false:=by
  rw[List.all_eq_false]
  exact⟨(rns l)[m],List.getElem_mem h,by rw[List.getD_eq_getElem?_getD,List.getElem?_eq_getElem h] at hh;simpa using hh⟩
 unfold Af;rw[this];simp
theorem R5 {k:Int} {l:List UInt8} (h1:validD l=true) (h2:¬Ai k<0) (h:∀m,m<(rns l).length→A5 k ((rns l).getD m 0)=true):Af k l=true:=by
 have:(rns l).all (A5 k)=true:=by
  rw[List.all_eq_true]
  intro x hx
  obtain⟨m,hm,rfl⟩:=List.getElem_of_mem hx
  have:=h m hm
  rwa[List.getD_eq_getElem?_getD,List.getElem?_eq_getElem hm] at this
 unfold Af;rw[this,h1];simp;omega
theorem kE (l:List UInt8) (h:validD l=true):∀m,(rns l).getD m 0<1099511627776:=by
 intro m
 by_cases hm:m<(rns l).length
 ·rw[List.getD_eq_getElem?_getD,List.getElem?_eq_getElem hm]
  have:=I6 l h _ (List.getElem_mem hm)
  rw[B7] at this
  simp;omega
 ·rw[List.getD_eq_getElem?_getD,List.getElem?_eq_none (by omega)];simp
theorem A6 {w w':World} {a:Addr} {u:Value} (h:w.cell? a=some u) (hb:Below w.heap.size w w'):w'.cell? a=some u:=by
 rw[hb.cell (Bm h)];exact h
def Hp:Nat→Nat→List UInt8
 |0,_=>[]
 |n+1,x=>UInt8.ofNat (x/256^n)::Hp n x
theorem I7 (n x:Nat):(Hp n x).length=n:=by
 induction n with
 |zero=>rfl
 |succ n ih=>simp[Hp,ih]
def chS (k:Int) (l:List UInt8):List UInt8:=if Ai k=0 then l else(rns l).flatMap (Hp (Ai k).toNat)
def Do (k:Int) (l:List UInt8):List UInt8:=if Af k l then chS k l else []
def G5 (k:Int) (l:List UInt8):Int:=if Af k l then 0 else 8
def Ia (W:Int) (x:Nat):List UInt8:=if W=0 then Cr x else Hp W.toNat x
theorem K9 (W:Int) (x:Nat) (h:W≤4):(Ia W x).length≤4:=by
 unfold Ia Cr
 (repeat' split)
 ·have:=(Ff x).2;omega
 ·simp
 ·rw[I7];omega
theorem J5 {f g:Nat→List UInt8}:∀l:List Nat,(∀x∈l,f x=g x)→l.flatMap f=l.flatMap g
 |[],_=>rfl
 |a::l,h=>by rw[List.flatMap_cons,List.flatMap_cons,h a List.mem_cons_self,J5 l fun x hx=>h x (List.mem_cons_of_mem _ hx)]
theorem I8 {k:Int} {l:List UInt8} (hv:Af k l=true):(rns l).flatMap (Ia (Ai k))=chS k l:=by
 have hvD:validD l=true:=by unfold Af at hv;simp at hv;exact hv.1.1
 unfold chS
 by_cases h:Ai k=0
 ·rw[if_pos h]
  have e:∀x∈rns l,Ia (Ai k) x=enc x:=fun x hx=>by
   unfold Ia Cr;rw[if_pos h,if_pos (I6 l hvD x hx)]
  exact(J5 _ e).trans (Hm l hvD)
 ·rw[if_neg h]
  exact J5 _ fun x _=>by unfold Ia;rw[if_neg h]
def Cn (c:List UInt8) (i:Nat):Nat→Nat
 |0=>0
 |k+1=>Cn c i k*256+(c.getD (i+k) 0).toNat
def Db (W:Nat) (c:List UInt8) (j:Nat):List UInt8:=(List.range j).flatMap fun q=>Cr (Cn c (q*W) W)
def Eh (k:Int) (c:List UInt8):List UInt8:=if Ai k=0 then c else Db (Ai k).toNat c (c.length/(Ai k).toNat)
def okD (k:Int) (c:List UInt8):Bool:=Af k (Eh k c)&&(chS k (Eh k c)==c)
def Ee (k:Int) (c:List UInt8):Int:=if Ai k<0 then 0 else if okD k c then k else 0
def Bq (k:Int) (c:List UInt8):List UInt8:=if Ai k<0 then [] else if okD k c then Eh k c else []
def Cs (k:Int) (c:List UInt8):Int:=if Ai k<0 then 3 else if okD k c then 0 else 6
theorem La (c:List UInt8) (i:Nat):∀k,Cn c i k<256^k
 |0=>by simp[Cn]
 |k+1=>by
  have:=La c i k
  have h2:=(c.getD (i+k) 0).toNat_lt
  simp only[Cn,Nat.pow_succ]
  omega
theorem Ps (x:Nat):(Cr x).length≤4:=by
 unfold Cr
 split
 ·exact(Ff x).2
 ·simp
theorem Ob (W:Nat) (c:List UInt8) (j:Nat):Db W c (j+1)=Db W c j++Cr (Cn c (j*W) W):=by
 unfold Db;rw[List.range_succ,List.flatMap_append];simp
theorem Ig (W:Nat) (c:List UInt8):∀j,(Db W c j).length≤4*j
 |0=>by simp[Db]
 |j+1=>by
  rw[Ob,List.length_append]
  have:=Ig W c j
  have:=Ps (Cn c (j*W) W)
  omega
theorem oM (k:Int) (c:List UInt8) (h:c.length≤1000000):(Eh k c).length≤4000000:=by
 unfold Eh
 split
 ·omega
 ·refine Nat.le_trans (Ig _ _ _) ?_
  have:=Nat.div_le_self c.length (Ai k).toNat
  omega
theorem Co (k:Int) (hk:¬Ai k<0):k=12∨k=19∨k=20∨k=22∨k=26∨k=28∨k=30:=by
 unfold Ai at hk
 (repeat' split at hk)<;>omega
def Ma (k:Int) (c:List UInt8) (w:World) (e:Ending) (w':World):Prop:=
 e= .returned (.tuple #[.agg #[.int .i64 (Ee k c),.string ⟨(Bq k c).toArray⟩],.int .i64 (Cs k c)])∧Below w.heap.size w w'
end Go.Proofs.YtcojanjphgmcmaaGreatDoor
