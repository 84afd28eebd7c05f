/- GCsPl: the texts CsPl, one behind the other. No condition but what each lemma says. -/
import Derived.Test.YtaoahmplnckhpaaGreatDoorGBase
namespace Go.Proofs.YtaoahmplnckhpaaGreatDoor
open Go.RowKit
open Go.Lib (validD decodeL)
def Aq (k:Int):Int:=if k=12 then 0 else if k=28 then 4 else if k=30 then 2 else if k=19∨k=20∨k=22∨k=26 then 1 else-1
def oth:List Nat:=[32,39,40,41,43,44,45,46,47,58,61,63]
def prn (x:Nat):Bool:=decide ((48≤x∧x<58)∨(65≤x∧x<91)∨(97≤x∧x<123))||oth.contains x
def Bh (k:Int) (x:Nat):Bool:=
 if k=12∨k=28 then D6 x else if k=30 then D6 x&&decide (x<65536) else if k=22 then decide (x<128)
 else if k=26 then decide (32≤x∧x<127) else if k=20 then decide ((32≤x∧x<127)∨(160≤x∧x<256))
 else if k=19 then prn x else false
theorem Mm (x:Nat) (h:D6 x=true):∃m,(Dc x).length=m+1:=by
 have:=(E2 x).1
 unfold Dc;rw[if_pos h]
 exact⟨(enc x).length-1,by omega⟩
def An (k:Int) (l:List UInt8):Bool:=validD l&& !decide (Aq k<0)&&(rns l).all (Bh k)
theorem Qe {k:Int} {l:List UInt8} (h:validD l=false):An k l=false:=by unfold An;rw[h];rfl
theorem Jz {k:Int} {l:List UInt8} (h:Aq k<0):An k l=false:=by unfold An;simp[h]
theorem Oy {k:Int} {l:List UInt8} {m:Nat} (h:m<(rns l).length) (hh:Bh k ((rns l).getD m 0)=false):An k l=false:=by
 have:(rns l).all (Bh k)=false:=by
  rw[List.all_eq_false]
  exact⟨(rns l)[m],List.getElem_mem h,by rw[List.getD_eq_getElem?_getD,Ak h] at hh;simpa using hh⟩
 unfold An;rw[this];simp
theorem Qf {k:Int} {l:List UInt8} (h1:validD l=true) (h2:¬Aq k<0) (h:∀m,m<(rns l).length→Bh k ((rns l).getD m 0)=true):An k l=true:=by
 have:(rns l).all (Bh k)=true:=by
  rw[List.all_eq_true]
  intro x hx
  obtain⟨m,hm,rfl⟩:=List.getElem_of_mem hx
  have:=h m hm
  rwa[List.getD_eq_getElem?_getD,Ak hm] at this
 unfold An;rw[this,h1];simp;omega
theorem jA (l:List UInt8) (h:validD l=true):∀m,(rns l).getD m 0<1099511627776:=by
 intro m
 by_cases hm:m<(rns l).length
 ·rw[List.getD_eq_getElem?_getD,Ak hm]
  have:=Jv l h _ (List.getElem_mem hm)
  rw[Co] at this
  simp;omega
 ·rw[List.getD_eq_getElem?_getD,List.getElem?_eq_none (by omega)];simp
theorem Bi {w w':World} {a:Addr} {u:Value} (h:w.cell? a=some u) (hb:Below w.heap.size w w'):w'.cell? a=some u:=by
 rw[hb.cell (Bz h)];exact h
def G5:Nat→Nat→List UInt8
 |0,_=>[]
 |n+1,x=>UInt8.ofNat (x/256^n)::G5 n x
theorem Ic (n x:Nat):(G5 n x).length=n:=by
 induction n with
 |zero=>rfl
 |succ n ih=>simp[G5,ih]
def chS (k:Int) (l:List UInt8):List UInt8:=if Aq k=0 then l else(rns l).flatMap (G5 (Aq k).toNat)
def J0 (k:Int) (l:List UInt8):List UInt8:=if An k l then chS k l else []
def Uu (k:Int) (l:List UInt8):Int:=if An k l then 0 else 8
def aM (W:Int) (x:Nat):List UInt8:=if W=0 then Dc x else G5 W.toNat x
theorem nJ (W:Int) (x:Nat) (h:W≤4):(aM W x).length≤4:=by
 unfold aM Dc
 (repeat' split)
 ·have:=(E2 x).2;omega
 ·simp
 ·rw[Ic];omega
theorem I3 {f g:Nat→List UInt8}:∀l:List Nat,(∀x∈l,f x=g x)→l.flatMap f=l.flatMap g
 |[],_=>rfl
 |a::l,h=>by rw[List.flatMap_cons,List.flatMap_cons,h a List.mem_cons_self,I3 l fun x hx=>h x (List.mem_cons_of_mem _ hx)]
theorem jB {k:Int} {l:List UInt8} (hv:An k l=true):(rns l).flatMap (aM (Aq k))=chS k l:=by
 have hvD:validD l=true:=by unfold An at hv;simp at hv;exact hv.1.1
 unfold chS
 by_cases h:Aq k=0
 ·rw[if_pos h]
  have e:∀x∈rns l,aM (Aq k) x=enc x:=fun x hx=>by
   unfold aM Dc;rw[if_pos h,if_pos (Jv l hvD x hx)]
  exact(I3 _ e).trans (G3 l hvD)
 ·rw[if_neg h]
  exact I3 _ fun x _=>by unfold aM;rw[if_neg h]
def C6 (c:List UInt8) (i:Nat):Nat→Nat
 |0=>0
 |k+1=>C6 c i k*256+(c.getD (i+k) 0).toNat
def Hm (W:Nat) (c:List UInt8) (j:Nat):List UInt8:=(List.range j).flatMap fun q=>Dc (C6 c (q*W) W)
def Fu (k:Int) (c:List UInt8):List UInt8:=if Aq k=0 then c else Hm (Aq k).toNat c (c.length/(Aq k).toNat)
def okD (k:Int) (c:List UInt8):Bool:=An k (Fu k c)&&(chS k (Fu k c)==c)
def I4 (k:Int) (c:List UInt8):Int:=if Aq k<0 then 0 else if okD k c then k else 0
def Fv (k:Int) (c:List UInt8):List UInt8:=if Aq k<0 then [] else if okD k c then Fu k c else []
def Fx (k:Int) (c:List UInt8):Int:=if Aq k<0 then 3 else if okD k c then 0 else 6
theorem J1 (c:List UInt8) (i:Nat):∀k,C6 c i k<256^k
 |0=>by simp[C6]
 |k+1=>by
  have:=J1 c i k
  have h2:=(c.getD (i+k) 0).toNat_lt
  simp only[C6,Nat.pow_succ]
  omega
theorem jC (x:Nat):(Dc x).length≤4:=by
 unfold Dc
 split
 ·exact(E2 x).2
 ·simp
theorem Uv (W:Nat) (c:List UInt8) (j:Nat):Hm W c (j+1)=Hm W c j++Dc (C6 c (j*W) W):=by
 unfold Hm;rw[List.range_succ,List.flatMap_append];simp
theorem Oz (W:Nat) (c:List UInt8):∀j,(Hm W c j).length≤4*j
 |0=>by simp[Hm]
 |j+1=>by
  rw[Uv,Aj]
  have:=Oz W c j
  have:=jC (C6 c (j*W) W)
  omega
theorem Ef (k:Int) (hk:¬Aq k<0):k=12∨k=19∨k=20∨k=22∨k=26∨k=28∨k=30:=by
 unfold Aq at hk
 (repeat' split at hk)<;>omega
def Kq (k:Int) (c:List UInt8) (w:World) (e:Ending) (w':World):Prop:=
 e= .returned (.tuple #[.agg #[.int .i64 (I4 k c),.string ⟨(Fv k c).toArray⟩],.int .i64 (Fx k c)])∧Below w.heap.size w w'
end Go.Proofs.YtaoahmplnckhpaaGreatDoor
