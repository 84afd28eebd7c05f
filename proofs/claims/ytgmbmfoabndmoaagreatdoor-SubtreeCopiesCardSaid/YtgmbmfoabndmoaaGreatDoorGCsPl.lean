/- GCsPl: the texts CsPl, one behind the other. No condition but what each lemma says. -/
import Derived.Test.YtgmbmfoabndmoaaGreatDoorGUtf
import Derived.Test.YtgmbmfoabndmoaaGreatDoorGBase
namespace Go.Proofs.YtgmbmfoabndmoaaGreatDoor
open Go.RowKit
open Go.Lib (validD decodeL)
def Ag (k:Int):Int:=if k=12 then 0 else if k=28 then 4 else if k=30 then 2 else if k=19∨k=20∨k=22∨k=26 then 1 else-1
def oth:List Nat:=[32,39,40,41,43,44,45,46,47,58,61,63]
def prn (x:Nat):Bool:=decide ((48≤x∧x<58)∨(65≤x∧x<91)∨(97≤x∧x<123))||oth.contains x
def A6 (k:Int) (x:Nat):Bool:=
 if k=12∨k=28 then D0 x else if k=30 then D0 x&&decide (x<65536) else if k=22 then decide (x<128)
 else if k=26 then decide (32≤x∧x<127) else if k=20 then decide ((32≤x∧x<127)∨(160≤x∧x<256))
 else if k=19 then prn x else false
theorem Oc (x:Nat) (h:D0 x=true):∃m,(Cu x).length=m+1:=by
 have:=(Fa x).1
 unfold Cu;rw[if_pos h]
 exact⟨(enc x).length-1,by omega⟩
def Af (k:Int) (l:List UInt8):Bool:=validD l&& !decide (Ag k<0)&&(rns l).all (A6 k)
theorem Sg {k:Int} {l:List UInt8} (h:validD l=false):Af k l=false:=by unfold Af;rw[h];rfl
theorem Kx {k:Int} {l:List UInt8} (h:Ag k<0):Af k l=false:=by unfold Af;simp[h]
theorem Qr {k:Int} {l:List UInt8} {m:Nat} (h:m<(rns l).length) (hh:A6 k ((rns l).getD m 0)=false):Af k l=false:=by
 have:(rns l).all (A6 k)=false:=by
  rw[List.all_eq_false]
  exact⟨(rns l)[m],List.getElem_mem h,by rw[List.getD_eq_getElem?_getD,List.getElem?_eq_getElem h] at hh;simpa using hh⟩
 unfold Af;rw[this];simp
theorem Sh {k:Int} {l:List UInt8} (h1:validD l=true) (h2:¬Ag k<0) (h:∀m,m<(rns l).length→A6 k ((rns l).getD m 0)=true):Af k l=true:=by
 have:(rns l).all (A6 k)=true:=by
  rw[List.all_eq_true]
  intro x hx
  obtain⟨m,hm,rfl⟩:=List.getElem_of_mem hx
  have:=h m hm
  rwa[List.getD_eq_getElem?_getD,List.getElem?_eq_getElem hm] at this
 unfold Af;rw[this,h1];simp;omega
theorem lZ (l:List UInt8) (h:validD l=true):∀m,(rns l).getD m 0<1099511627776:=by
 intro m
 by_cases hm:m<(rns l).length
 ·rw[List.getD_eq_getElem?_getD,List.getElem?_eq_getElem hm]
  have:=I2 l h _ (List.getElem_mem hm)
  rw[B7] at this
  simp;omega
 ·rw[List.getD_eq_getElem?_getD,List.getElem?_eq_none (by omega)];simp
theorem A7 {w w':World} {a:Addr} {u:Value} (h:w.cell? a=some u) (hb:Below w.heap.size w w'):w'.cell? a=some u:=by
 rw[hb.cell (Bl h)];exact h
def Hh:Nat→Nat→List UInt8
 |0,_=>[]
 |n+1,x=>UInt8.ofNat (x/256^n)::Hh n x
theorem I3 (n x:Nat):(Hh n x).length=n:=by
 induction n with
 |zero=>rfl
 |succ n ih=>simp[Hh,ih]
def chS (k:Int) (l:List UInt8):List UInt8:=if Ag k=0 then l else(rns l).flatMap (Hh (Ag k).toNat)
def Dl (k:Int) (l:List UInt8):List UInt8:=if Af k l then chS k l else []
def Gy (k:Int) (l:List UInt8):Int:=if Af k l then 0 else 8
def H4 (W:Int) (x:Nat):List UInt8:=if W=0 then Cu x else Hh W.toNat x
theorem Ky (W:Int) (x:Nat) (h:W≤4):(H4 W x).length≤4:=by
 unfold H4 Cu
 (repeat' split)
 ·have:=(Fa x).2;omega
 ·simp
 ·rw[I3];omega
theorem Jv {f g:Nat→List UInt8}:∀l:List Nat,(∀x∈l,f x=g x)→l.flatMap f=l.flatMap g
 |[],_=>rfl
 |a::l,h=>by rw[List.flatMap_cons,List.flatMap_cons,h a List.mem_cons_self,Jv l fun x hx=>h x (List.mem_cons_of_mem _ hx)]
theorem I4 {k:Int} {l:List UInt8} (hv:Af k l=true):(rns l).flatMap (H4 (Ag k))=chS k l:=by
 have hvD:validD l=true:=by unfold Af at hv;simp at hv;exact hv.1.1
 unfold chS
 by_cases h:Ag k=0
 ·rw[if_pos h]
  have e:∀x∈rns l,H4 (Ag k) x=enc x:=fun x hx=>by
   unfold H4 Cu;rw[if_pos h,if_pos (I2 l hvD x hx)]
  exact(Jv _ e).trans (Hf l hvD)
 ·rw[if_neg h]
  exact Jv _ fun x _=>by unfold H4;rw[if_neg h]
def Cm (c:List UInt8) (i:Nat):Nat→Nat
 |0=>0
 |k+1=>Cm c i k*256+(c.getD (i+k) 0).toNat
def Da (W:Nat) (c:List UInt8) (j:Nat):List UInt8:=(List.range j).flatMap fun q=>Cu (Cm c (q*W) W)
def Ef (k:Int) (c:List UInt8):List UInt8:=if Ag k=0 then c else Da (Ag k).toNat c (c.length/(Ag k).toNat)
def okD (k:Int) (c:List UInt8):Bool:=Af k (Ef k c)&&(chS k (Ef k c)==c)
def Ed (k:Int) (c:List UInt8):Int:=if Ag k<0 then 0 else if okD k c then k else 0
def Bs (k:Int) (c:List UInt8):List UInt8:=if Ag k<0 then [] else if okD k c then Ef k c else []
def Cw (k:Int) (c:List UInt8):Int:=if Ag k<0 then 3 else if okD k c then 0 else 6
theorem Kz (c:List UInt8) (i:Nat):∀k,Cm c i k<256^k
 |0=>by simp[Cm]
 |k+1=>by
  have:=Kz c i k
  have h2:=(c.getD (i+k) 0).toNat_lt
  simp only[Cm,Nat.pow_succ]
  omega
theorem Ps (x:Nat):(Cu x).length≤4:=by
 unfold Cu
 split
 ·exact(Fa x).2
 ·simp
theorem Od (W:Nat) (c:List UInt8) (j:Nat):Da W c (j+1)=Da W c j++Cu (Cm c (j*W) W):=by
 unfold Da;rw[List.range_succ,List.flatMap_append];simp
theorem H8 (W:Nat) (c:List UInt8):∀j,(Da W c j).length≤4*j
 |0=>by simp[Da]
 |j+1=>by
  rw[Od,List.length_append]
  have:=H8 W c j
  have:=Ps (Cm c (j*W) W)
  omega
theorem qE (k:Int) (c:List UInt8) (h:c.length≤1000000):(Ef k c).length≤4000000:=by
 unfold Ef
 split
 ·omega
 ·refine Nat.le_trans (H8 _ _ _) ?_
  have:=Nat.div_le_self c.length (Ag k).toNat
  omega
theorem Cn (k:Int) (hk:¬Ag k<0):k=12∨k=19∨k=20∨k=22∨k=26∨k=28∨k=30:=by
 unfold Ag at hk
 (repeat' split at hk)<;>omega
def L5 (k:Int) (c:List UInt8) (w:World) (e:Ending) (w':World):Prop:=
 e= .returned (.tuple #[.agg #[.int .i64 (Ed k c),.string ⟨(Bs k c).toArray⟩],.int .i64 (Cw k c)])∧Below w.heap.size w w'
end Go.Proofs.YtgmbmfoabndmoaaGreatDoor
