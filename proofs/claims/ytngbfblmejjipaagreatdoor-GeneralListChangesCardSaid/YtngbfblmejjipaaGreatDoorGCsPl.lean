/- GCsPl: the texts CsPl, one behind the other. No condition but what each lemma says. -/
import Derived.Test.YtngbfblmejjipaaGreatDoorGUtf
import Derived.Test.YtngbfblmejjipaaGreatDoorGBase
namespace Go.Proofs.YtngbfblmejjipaaGreatDoor
open Go.RowKit
open Go.Lib (validD decodeL)
def Ag (k:Int):Int:=if k=12 then 0 else if k=28 then 4 else if k=30 then 2 else if k=19∨k=20∨k=22∨k=26 then 1 else-1
def oth:List Nat:=[32,39,40,41,43,44,45,46,47,58,61,63]
def prn (x:Nat):Bool:=decide ((48≤x∧x<58)∨(65≤x∧x<91)∨(97≤x∧x<123))||oth.contains x
def A4 (k:Int) (x:Nat):Bool:=
 if k=12∨k=28 then Dv x else if k=30 then Dv x&&decide (x<65536) else if k=22 then decide (x<128)
 else if k=26 then decide (32≤x∧x<127) else if k=20 then decide ((32≤x∧x<127)∨(160≤x∧x<256))
 else if k=19 then prn x else false
theorem N0 (x:Nat) (h:Dv x=true):∃m,(Cw x).length=m+1:=by
 have:=(E8 x).1
 unfold Cw;rw[if_pos h]
 exact⟨(enc x).length-1,by omega⟩
def Af (k:Int) (l:List UInt8):Bool:=validD l&& !decide (Ag k<0)&&(rns l).all (A4 k)
theorem Rt {k:Int} {l:List UInt8} (h:validD l=false):Af k l=false:=by unfold Af;rw[h];rfl
theorem Kt {k:Int} {l:List UInt8} (h:Ag k<0):Af k l=false:=by unfold Af;simp[h]
theorem Qb {k:Int} {l:List UInt8} {m:Nat} (h:m<(rns l).length) (hh:A4 k ((rns l).getD m 0)=false):Af k l=false:=by
 have:(rns l).all (A4 k)=false:=by
  rw[List.all_eq_false]
  exact⟨(rns l)[m],List.getElem_mem h,by rw[List.getD_eq_getElem?_getD,List.getElem?_eq_getElem h] at hh;simpa using hh⟩
 unfold Af;rw[this];simp
theorem Ru {k:Int} {l:List UInt8} (h1:validD l=true) (h2:¬Ag k<0) (h:∀m,m<(rns l).length→A4 k ((rns l).getD m 0)=true):Af k l=true:=by
 have:(rns l).all (A4 k)=true:=by
  rw[List.all_eq_true]
  intro x hx
  obtain⟨m,hm,rfl⟩:=List.getElem_of_mem hx
  have:=h m hm
  rwa[List.getD_eq_getElem?_getD,List.getElem?_eq_getElem hm] at this
 unfold Af;rw[this,h1];simp;omega
theorem jY (l:List UInt8) (h:validD l=true):∀m,(rns l).getD m 0<1099511627776:=by
 intro m
 by_cases hm:m<(rns l).length
 ·rw[List.getD_eq_getElem?_getD,List.getElem?_eq_getElem hm]
  have:=I3 l h _ (List.getElem_mem hm)
  rw[B4] at this
  simp;omega
 ·rw[List.getD_eq_getElem?_getD,List.getElem?_eq_none (by omega)];simp
theorem A5 {w w':World} {a:Addr} {u:Value} (h:w.cell? a=some u) (hb:Below w.heap.size w w'):w'.cell? a=some u:=by
 rw[hb.cell (Bn h)];exact h
def Hp:Nat→Nat→List UInt8
 |0,_=>[]
 |n+1,x=>UInt8.ofNat (x/256^n)::Hp n x
theorem I4 (n x:Nat):(Hp n x).length=n:=by
 induction n with
 |zero=>rfl
 |succ n ih=>simp[Hp,ih]
def chS (k:Int) (l:List UInt8):List UInt8:=if Ag k=0 then l else(rns l).flatMap (Hp (Ag k).toNat)
def D5 (k:Int) (l:List UInt8):List UInt8:=if Af k l then chS k l else []
def Hq (k:Int) (l:List UInt8):Int:=if Af k l then 0 else 8
def H5 (W:Int) (x:Nat):List UInt8:=if W=0 then Cw x else Hp W.toNat x
theorem Ku (W:Int) (x:Nat) (h:W≤4):(H5 W x).length≤4:=by
 unfold H5 Cw
 (repeat' split)
 ·have:=(E8 x).2;omega
 ·simp
 ·rw[I4];omega
theorem Jv {f g:Nat→List UInt8}:∀l:List Nat,(∀x∈l,f x=g x)→l.flatMap f=l.flatMap g
 |[],_=>rfl
 |a::l,h=>by rw[List.flatMap_cons,List.flatMap_cons,h a List.mem_cons_self,Jv l fun x hx=>h x (List.mem_cons_of_mem _ hx)]
theorem I5 {k:Int} {l:List UInt8} (hv:Af k l=true):(rns l).flatMap (H5 (Ag k))=chS k l:=by
 have hvD:validD l=true:=by unfold Af at hv;simp at hv;exact hv.1.1
 unfold chS
 by_cases h:Ag k=0
 ·rw[if_pos h]
  have e:∀x∈rns l,H5 (Ag k) x=enc x:=fun x hx=>by
   unfold H5 Cw;rw[if_pos h,if_pos (I3 l hvD x hx)]
  exact(Jv _ e).trans (Hm l hvD)
 ·rw[if_neg h]
  exact Jv _ fun x _=>by unfold H5;rw[if_neg h]
def Cl (c:List UInt8) (i:Nat):Nat→Nat
 |0=>0
 |k+1=>Cl c i k*256+(c.getD (i+k) 0).toNat
def Da (W:Nat) (c:List UInt8) (j:Nat):List UInt8:=(List.range j).flatMap fun q=>Cw (Cl c (q*W) W)
def Ec (k:Int) (c:List UInt8):List UInt8:=if Ag k=0 then c else Da (Ag k).toNat c (c.length/(Ag k).toNat)
def okD (k:Int) (c:List UInt8):Bool:=Af k (Ec k c)&&(chS k (Ec k c)==c)
def D9 (k:Int) (c:List UInt8):Int:=if Ag k<0 then 0 else if okD k c then k else 0
def Bv (k:Int) (c:List UInt8):List UInt8:=if Ag k<0 then [] else if okD k c then Ec k c else []
def C5 (k:Int) (c:List UInt8):Int:=if Ag k<0 then 3 else if okD k c then 0 else 6
theorem Kv (c:List UInt8) (i:Nat):∀k,Cl c i k<256^k
 |0=>by simp[Cl]
 |k+1=>by
  have:=Kv c i k
  have h2:=(c.getD (i+k) 0).toNat_lt
  simp only[Cl,Nat.pow_succ]
  omega
theorem Ph (x:Nat):(Cw x).length≤4:=by
 unfold Cw
 split
 ·exact(E8 x).2
 ·simp
theorem N1 (W:Nat) (c:List UInt8) (j:Nat):Da W c (j+1)=Da W c j++Cw (Cl c (j*W) W):=by
 unfold Da;rw[List.range_succ,List.flatMap_append];simp
theorem H9 (W:Nat) (c:List UInt8):∀j,(Da W c j).length≤4*j
 |0=>by simp[Da]
 |j+1=>by
  rw[N1,List.length_append]
  have:=H9 W c j
  have:=Ph (Cl c (j*W) W)
  omega
theorem nZ (k:Int) (c:List UInt8) (h:c.length≤1000000):(Ec k c).length≤4000000:=by
 unfold Ec
 split
 ·omega
 ·refine Nat.le_trans (H9 _ _ _) ?_
  have:=Nat.div_le_self c.length (Ag k).toNat
  omega
theorem Cm (k:Int) (hk:¬Ag k<0):k=12∨k=19∨k=20∨k=22∨k=26∨k=28∨k=30:=by
 unfold Ag at hk
 (repeat' split at hk)<;>omega
def Ly (k:Int) (c:List UInt8) (w:World) (e:Ending) (w':World):Prop:=
 e= .returned (.tuple #[.agg #[.int .i64 (D9 k c),.string ⟨(Bv k c).toArray⟩],.int .i64 (C5 k c)])∧Below w.heap.size w w'
end Go.Proofs.YtngbfblmejjipaaGreatDoor
