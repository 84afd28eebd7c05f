/- GCsPl: the texts CsPl, one behind the other. No condition but what each lemma says. -/
import Derived.Test.YtokmjjkbginodaaGreatDoorGBase
namespace Go.Proofs.YtokmjjkbginodaaGreatDoor
open Go.RowKit
open Go.Lib (validD decodeL)
def Ar (k:Int):Int:=if k=12 then 0 else if k=28 then 4 else if k=30 then 2 else if k=19∨k=20∨k=22∨k=26 then 1 else-1
def oth:List Nat:=[32,39,40,41,43,44,45,46,47,58,61,63]
def prn (x:Nat):Bool:=decide ((48≤x∧x<58)∨(65≤x∧x<91)∨(97≤x∧x<123))||oth.contains x
def B5 (k:Int) (x:Nat):Bool:=
 if k=12∨k=28 then E7 x else if k=30 then E7 x&&decide (x<65536) else if k=22 then decide (x<128)
 else if k=26 then decide (32≤x∧x<127) else if k=20 then decide ((32≤x∧x<127)∨(160≤x∧x<256))
 else if k=19 then prn x else false
theorem P0 (x:Nat) (h:E7 x=true):∃m,(Du x).length=m+1:=by
 have:=(Gf x).1
 unfold Du;rw[if_pos h]
 exact⟨(enc x).length-1,by omega⟩
def Aq (k:Int) (l:List UInt8):Bool:=validD l&& !decide (Ar k<0)&&(rns l).all (B5 k)
theorem T8 {k:Int} {l:List UInt8} (h:validD l=false):Aq k l=false:=by unfold Aq;rw[h];rfl
theorem Md {k:Int} {l:List UInt8} (h:Ar k<0):Aq k l=false:=by unfold Aq;simp[h]
theorem Si {k:Int} {l:List UInt8} {m:Nat} (h:m<(rns l).length) (hh:B5 k ((rns l).getD m 0)=false):Aq k l=false:=by
 have:(rns l).all (B5 k)=false:=by
  rw[List.all_eq_false]
  exact⟨(rns l)[m],List.getElem_mem h,by rw[List.getD_eq_getElem?_getD,Am h] at hh;simpa using hh⟩
 unfold Aq;rw[this];simp
theorem T9 {k:Int} {l:List UInt8} (h1:validD l=true) (h2:¬Ar k<0) (h:∀m,m<(rns l).length→B5 k ((rns l).getD m 0)=true):Aq k l=true:=by
 have:(rns l).all (B5 k)=true:=by
  rw[List.all_eq_true]
  intro x hx
  obtain⟨m,hm,rfl⟩:=List.getElem_of_mem hx
  have:=h m hm
  rwa[List.getD_eq_getElem?_getD,Am hm] at this
 unfold Aq;rw[this,h1];simp;omega
theorem rC (l:List UInt8) (h:validD l=true):∀m,(rns l).getD m 0<1099511627776:=by
 intro m
 by_cases hm:m<(rns l).length
 ·rw[List.getD_eq_getElem?_getD,Am hm]
  have:=Km l h _ (List.getElem_mem hm)
  rw[C3] at this
  simp;omega
 ·rw[List.getD_eq_getElem?_getD,List.getElem?_eq_none (by omega)];simp
theorem B6 {w w':World} {a:Addr} {u:Value} (h:w.cell? a=some u) (hb:Below w.heap.size w w'):w'.cell? a=some u:=by
 rw[hb.cell (Co h)];exact h
def I1:Nat→Nat→List UInt8
 |0,_=>[]
 |n+1,x=>UInt8.ofNat (x/256^n)::I1 n x
theorem Kn (n x:Nat):(I1 n x).length=n:=by
 induction n with
 |zero=>rfl
 |succ n ih=>simp[I1,ih]
def chS (k:Int) (l:List UInt8):List UInt8:=if Ar k=0 then l else(rns l).flatMap (I1 (Ar k).toNat)
def Fh (k:Int) (l:List UInt8):List UInt8:=if Aq k l then chS k l else []
def I2 (k:Int) (l:List UInt8):Int:=if Aq k l then 0 else 8
def Jl (W:Int) (x:Nat):List UInt8:=if W=0 then Du x else I1 W.toNat x
theorem Me (W:Int) (x:Nat) (h:W≤4):(Jl W x).length≤4:=by
 unfold Jl Du
 (repeat' split)
 ·have:=(Gf x).2;omega
 ·simp
 ·rw[Kn];omega
theorem Lj {f g:Nat→List UInt8}:∀l:List Nat,(∀x∈l,f x=g x)→l.flatMap f=l.flatMap g
 |[],_=>rfl
 |a::l,h=>by rw[List.flatMap_cons,List.flatMap_cons,h a List.mem_cons_self,Lj l fun x hx=>h x (List.mem_cons_of_mem _ hx)]
theorem Ko {k:Int} {l:List UInt8} (hv:Aq k l=true):(rns l).flatMap (Jl (Ar k))=chS k l:=by
 have hvD:validD l=true:=by unfold Aq at hv;simp at hv;exact hv.1.1
 unfold chS
 by_cases h:Ar k=0
 ·rw[if_pos h]
  have e:∀x∈rns l,Jl (Ar k) x=enc x:=fun x hx=>by
   unfold Jl Du;rw[if_pos h,if_pos (Km l hvD x hx)]
  exact(Lj _ e).trans (Iz l hvD)
 ·rw[if_neg h]
  exact Lj _ fun x _=>by unfold Jl;rw[if_neg h]
def Dk (c:List UInt8) (i:Nat):Nat→Nat
 |0=>0
 |k+1=>Dk c i k*256+(c.getD (i+k) 0).toNat
def Ec (W:Nat) (c:List UInt8) (j:Nat):List UInt8:=(List.range j).flatMap fun q=>Du (Dk c (q*W) W)
def Fp (k:Int) (c:List UInt8):List UInt8:=if Ar k=0 then c else Ec (Ar k).toNat c (c.length/(Ar k).toNat)
def okD (k:Int) (c:List UInt8):Bool:=Aq k (Fp k c)&&(chS k (Fp k c)==c)
def Fl (k:Int) (c:List UInt8):Int:=if Ar k<0 then 0 else if okD k c then k else 0
def Cu (k:Int) (c:List UInt8):List UInt8:=if Ar k<0 then [] else if okD k c then Fp k c else []
def D7 (k:Int) (c:List UInt8):Int:=if Ar k<0 then 3 else if okD k c then 0 else 6
theorem Mf (c:List UInt8) (i:Nat):∀k,Dk c i k<256^k
 |0=>by simp[Dk]
 |k+1=>by
  have:=Mf c i k
  have h2:=(c.getD (i+k) 0).toNat_lt
  simp only[Dk,Nat.pow_succ]
  omega
theorem Ri (x:Nat):(Du x).length≤4:=by
 unfold Du
 split
 ·exact(Gf x).2
 ·simp
theorem P1 (W:Nat) (c:List UInt8) (j:Nat):Ec W c (j+1)=Ec W c j++Du (Dk c (j*W) W):=by
 unfold Ec;rw[List.range_succ,List.flatMap_append];simp
theorem Jt (W:Nat) (c:List UInt8):∀j,(Ec W c j).length≤4*j
 |0=>by simp[Ec]
 |j+1=>by
  rw[P1,Ap]
  have:=Jt W c j
  have:=Ri (Dk c (j*W) W)
  omega
theorem vU (k:Int) (c:List UInt8) (h:c.length≤1000000):(Fp k c).length≤4000000:=by
 unfold Fp
 split
 ·omega
 ·refine Nat.le_trans (Jt _ _ _) ?_
  have:=Nat.div_le_self c.length (Ar k).toNat
  omega
theorem Dl (k:Int) (hk:¬Ar k<0):k=12∨k=19∨k=20∨k=22∨k=26∨k=28∨k=30:=by
 unfold Ar at hk
 (repeat' split at hk)<;>omega
def Nm (k:Int) (c:List UInt8) (w:World) (e:Ending) (w':World):Prop:=
 e= .returned (.tuple #[.agg #[.int .i64 (Fl k c),.string ⟨(Cu k c).toArray⟩],.int .i64 (D7 k c)])∧Below w.heap.size w w'
end Go.Proofs.YtokmjjkbginodaaGreatDoor
