/- GCsPl: the texts CsPl, one behind the other. No condition but what each lemma says. -/
import Derived.Test.YtngbfblmejjipaaGreatDoorGUtf
import Derived.Test.YtngbfblmejjipaaGreatDoorGBase
namespace Go.Proofs.YtngbfblmejjipaaGreatDoor
open Go.RowKit
open Go.Lib (validD decodeL)
def Ae (k:Int):Int:=if k=12 then 0 else if k=28 then 4 else if k=30 then 2 else if k=19∨k=20∨k=22∨k=26 then 1 else-1
def oth:List Nat:=[32,39,40,41,43,44,45,46,47,58,61,63]
def prn (x:Nat):Bool:=decide ((48≤x∧x<58)∨(65≤x∧x<91)∨(97≤x∧x<123))||oth.contains x
def A8 (k:Int) (x:Nat):Bool:=
 if k=12∨k=28 then Ct x else if k=30 then Ct x&&decide (x<65536) else if k=22 then decide (x<128)
 else if k=26 then decide (32≤x∧x<127) else if k=20 then decide ((32≤x∧x<127)∨(160≤x∧x<256))
 else if k=19 then prn x else false
def Af (k:Int) (l:List UInt8):Bool:=validD l&& !decide (Ae k<0)&&(rns l).all (A8 k)
theorem S4 {k:Int} {l:List UInt8} (h:validD l=false):Af k l=false:=by unfold Af;rw[h];rfl
theorem Kl {k:Int} {l:List UInt8} (h:Ae k<0):Af k l=false:=by unfold Af;simp[h]
theorem Qs {k:Int} {l:List UInt8} {m:Nat} (h:m<(rns l).length) (hh:A8 k ((rns l).getD m 0)=false):Af k l=false:=by
 have:(rns l).all (A8 k)=false:=by
  rw[List.all_eq_false]
  exact⟨(rns l)[m],List.getElem_mem h,by rw[List.getD_eq_getElem?_getD,List.getElem?_eq_getElem h] at hh;simpa using hh⟩
 unfold Af;rw[this];simp
theorem S5 {k:Int} {l:List UInt8} (h1:validD l=true) (h2:¬Ae k<0) (h:∀m,m<(rns l).length→A8 k ((rns l).getD m 0)=true):Af k l=true:=by
 have:(rns l).all (A8 k)=true:=by
  rw[List.all_eq_true]
  intro x hx
  obtain⟨m,hm,rfl⟩:=List.getElem_of_mem hx
  have:=h m hm
  rwa[List.getD_eq_getElem?_getD,List.getElem?_eq_getElem hm] at this
 unfold Af;rw[this,h1];simp;omega
theorem At {w w':World} {a:Addr} {u:Value} (h:w.cell? a=some u) (hb:Below w.heap.size w w'):w'.cell? a=some u:=by
 rw[hb.cell (A0 h)];exact h
def Em:Nat→Nat→List UInt8
 |0,_=>[]
 |n+1,x=>UInt8.ofNat (x/256^n)::Em n x
theorem Fj (n x:Nat):(Em n x).length=n:=by
 induction n with
 |zero=>rfl
 |succ n ih=>simp[Em,ih]
def chS (k:Int) (l:List UInt8):List UInt8:=if Ae k=0 then l else(rns l).flatMap (Em (Ae k).toNat)
def Gx (k:Int) (l:List UInt8):List UInt8:=if Af k l then chS k l else []
def O0 (k:Int) (l:List UInt8):Int:=if Af k l then 0 else 8
def S6 (W:Int) (x:Nat):List UInt8:=if W=0 then Fh x else Em W.toNat x
theorem Z6 (W:Int) (x:Nat) (h:W≤4):(S6 W x).length≤4:=by
 unfold S6 Fh
 (repeat' split)
 ·have:=(D9 x).2;omega
 ·simp
 ·rw[Fj];omega
theorem F3 {f g:Nat→List UInt8}:∀l:List Nat,(∀x∈l,f x=g x)→l.flatMap f=l.flatMap g
 |[],_=>rfl
 |a::l,h=>by rw[List.flatMap_cons,List.flatMap_cons,h a List.mem_cons_self,F3 l fun x hx=>h x (List.mem_cons_of_mem _ hx)]
theorem Xj {k:Int} {l:List UInt8} (hv:Af k l=true):(rns l).flatMap (S6 (Ae k))=chS k l:=by
 have hvD:validD l=true:=by unfold Af at hv;simp at hv;exact hv.1.1
 unfold chS
 by_cases h:Ae k=0
 ·rw[if_pos h]
  have e:∀x∈rns l,S6 (Ae k) x=enc x:=fun x hx=>by
   unfold S6 Fh;rw[if_pos h,if_pos (Iy l hvD x hx)]
  exact(F3 _ e).trans (Fi l hvD)
 ·rw[if_neg h]
  exact F3 _ fun x _=>by unfold S6;rw[if_neg h]
def Bf (c:List UInt8) (i:Nat):Nat→Nat
 |0=>0
 |k+1=>Bf c i k*256+(c.getD (i+k) 0).toNat
def E1 (W:Nat) (c:List UInt8) (j:Nat):List UInt8:=(List.range j).flatMap fun q=>Fh (Bf c (q*W) W)
def Df (k:Int) (c:List UInt8):List UInt8:=if Ae k=0 then c else E1 (Ae k).toNat c (c.length/(Ae k).toNat)
def okD (k:Int) (c:List UInt8):Bool:=Af k (Df k c)&&(chS k (Df k c)==c)
def F4 (k:Int) (c:List UInt8):Int:=if Ae k<0 then 0 else if okD k c then k else 0
def Dg (k:Int) (c:List UInt8):List UInt8:=if Ae k<0 then [] else if okD k c then Df k c else []
def Dk (k:Int) (c:List UInt8):Int:=if Ae k<0 then 3 else if okD k c then 0 else 6
theorem Gy (c:List UInt8) (i:Nat):∀k,Bf c i k<256^k
 |0=>by simp[Bf]
 |k+1=>by
  have:=Gy c i k
  have h2:=(c.getD (i+k) 0).toNat_lt
  simp only[Bf,Nat.pow_succ]
  omega
theorem Xk (x:Nat):(Fh x).length≤4:=by
 unfold Fh
 split
 ·exact(D9 x).2
 ·simp
theorem O1 (W:Nat) (c:List UInt8) (j:Nat):E1 W c (j+1)=E1 W c j++Fh (Bf c (j*W) W):=by
 unfold E1;rw[List.range_succ,List.flatMap_append];simp
theorem Km (W:Nat) (c:List UInt8):∀j,(E1 W c j).length≤4*j
 |0=>by simp[E1]
 |j+1=>by
  rw[O1,List.length_append]
  have:=Km W c j
  have:=Xk (Bf c (j*W) W)
  omega
theorem Dz (k:Int) (hk:¬Ae k<0):k=12∨k=19∨k=20∨k=22∨k=26∨k=28∨k=30:=by
 unfold Ae at hk
 (repeat' split at hk)<;>omega
def Hk (k:Int) (c:List UInt8) (w:World) (e:Ending) (w':World):Prop:=
 e= .returned (.tuple #[.agg #[.int .i64 (F4 k c),.string ⟨(Dg k c).toArray⟩],.int .i64 (Dk k c)])∧Below w.heap.size w w'
end Go.Proofs.YtngbfblmejjipaaGreatDoor
