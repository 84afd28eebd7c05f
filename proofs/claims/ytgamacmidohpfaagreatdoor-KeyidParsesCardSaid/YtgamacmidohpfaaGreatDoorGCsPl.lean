/- GCsPl: the texts CsPl, one behind the other. No condition but what each lemma says. -/
import Derived.Test.YtgamacmidohpfaaGreatDoorGUtf
import Derived.Test.YtgamacmidohpfaaGreatDoorGBase
namespace Go.Proofs.YtgamacmidohpfaaGreatDoor
open Go.RowKit
open Go.Lib (validD decodeL)
def Aj (k:Int):Int:=if k=12 then 0 else if k=28 then 4 else if k=30 then 2 else if k=19∨k=20∨k=22∨k=26 then 1 else-1
def oth:List Nat:=[32,39,40,41,43,44,45,46,47,58,61,63]
def prn (x:Nat):Bool:=decide ((48≤x∧x<58)∨(65≤x∧x<91)∨(97≤x∧x<123))||oth.contains x
def A9 (k:Int) (x:Nat):Bool:=
 if k=12∨k=28 then Dz x else if k=30 then Dz x&&decide (x<65536) else if k=22 then decide (x<128)
 else if k=26 then decide (32≤x∧x<127) else if k=20 then decide ((32≤x∧x<127)∨(160≤x∧x<256))
 else if k=19 then prn x else false
theorem Nr (x:Nat) (h:Dz x=true):∃m,(Cu x).length=m+1:=by
 have:=(E6 x).1
 unfold Cu;rw[if_pos h]
 exact⟨(enc x).length-1,by omega⟩
def Ah (k:Int) (l:List UInt8):Bool:=validD l&& !decide (Aj k<0)&&(rns l).all (A9 k)
theorem R0 {k:Int} {l:List UInt8} (h:validD l=false):Ah k l=false:=by unfold Ah;rw[h];rfl
theorem Ko {k:Int} {l:List UInt8} (h:Aj k<0):Ah k l=false:=by unfold Ah;simp[h]
theorem P8 {k:Int} {l:List UInt8} {m:Nat} (h:m<(rns l).length) (hh:A9 k ((rns l).getD m 0)=false):Ah k l=false:=by
 have:(rns l).all (A9 k)=false:=by
  rw[List.all_eq_false]
  exact⟨(rns l)[m],List.getElem_mem h,by rw[List.getD_eq_getElem?_getD,List.getElem?_eq_getElem h] at hh;simpa using hh⟩
 unfold Ah;rw[this];simp
theorem R1 {k:Int} {l:List UInt8} (h1:validD l=true) (h2:¬Aj k<0) (h:∀m,m<(rns l).length→A9 k ((rns l).getD m 0)=true):Ah k l=true:=by
 have:(rns l).all (A9 k)=true:=by
  rw[List.all_eq_true]
  intro x hx
  obtain⟨m,hm,rfl⟩:=List.getElem_of_mem hx
  have:=h m hm
  rwa[List.getD_eq_getElem?_getD,List.getElem?_eq_getElem hm] at this
 unfold Ah;rw[this,h1];simp;omega
theorem kK (l:List UInt8) (h:validD l=true):∀m,(rns l).getD m 0<1099511627776:=by
 intro m
 by_cases hm:m<(rns l).length
 ·rw[List.getD_eq_getElem?_getD,List.getElem?_eq_getElem hm]
  have:=Is l h _ (List.getElem_mem hm)
  rw[B7] at this
  simp;omega
 ·rw[List.getD_eq_getElem?_getD,List.getElem?_eq_none (by omega)];simp
theorem Ba {w w':World} {a:Addr} {u:Value} (h:w.cell? a=some u) (hb:Below w.heap.size w w'):w'.cell? a=some u:=by
 rw[hb.cell (Br h)];exact h
def Hf:Nat→Nat→List UInt8
 |0,_=>[]
 |n+1,x=>UInt8.ofNat (x/256^n)::Hf n x
theorem Iu (n x:Nat):(Hf n x).length=n:=by
 induction n with
 |zero=>rfl
 |succ n ih=>simp[Hf,ih]
def chS (k:Int) (l:List UInt8):List UInt8:=if Aj k=0 then l else(rns l).flatMap (Hf (Aj k).toNat)
def Dm (k:Int) (l:List UInt8):List UInt8:=if Ah k l then chS k l else []
def Gw (k:Int) (l:List UInt8):Int:=if Ah k l then 0 else 8
def Hx (W:Int) (x:Nat):List UInt8:=if W=0 then Cu x else Hf W.toNat x
theorem Kp (W:Int) (x:Nat) (h:W≤4):(Hx W x).length≤4:=by
 unfold Hx Cu
 (repeat' split)
 ·have:=(E6 x).2;omega
 ·simp
 ·rw[Iu];omega
theorem Jp {f g:Nat→List UInt8}:∀l:List Nat,(∀x∈l,f x=g x)→l.flatMap f=l.flatMap g
 |[],_=>rfl
 |a::l,h=>by rw[List.flatMap_cons,List.flatMap_cons,h a List.mem_cons_self,Jp l fun x hx=>h x (List.mem_cons_of_mem _ hx)]
theorem Iv {k:Int} {l:List UInt8} (hv:Ah k l=true):(rns l).flatMap (Hx (Aj k))=chS k l:=by
 have hvD:validD l=true:=by unfold Ah at hv;simp at hv;exact hv.1.1
 unfold chS
 by_cases h:Aj k=0
 ·rw[if_pos h]
  have e:∀x∈rns l,Hx (Aj k) x=enc x:=fun x hx=>by
   unfold Hx Cu;rw[if_pos h,if_pos (Is l hvD x hx)]
  exact(Jp _ e).trans (Hc l hvD)
 ·rw[if_neg h]
  exact Jp _ fun x _=>by unfold Hx;rw[if_neg h]
def Cn (c:List UInt8) (i:Nat):Nat→Nat
 |0=>0
 |k+1=>Cn c i k*256+(c.getD (i+k) 0).toNat
def Da (W:Nat) (c:List UInt8) (j:Nat):List UInt8:=(List.range j).flatMap fun q=>Cu (Cn c (q*W) W)
def Ed (k:Int) (c:List UInt8):List UInt8:=if Aj k=0 then c else Da (Aj k).toNat c (c.length/(Aj k).toNat)
def okD (k:Int) (c:List UInt8):Bool:=Ah k (Ed k c)&&(chS k (Ed k c)==c)
def Ea (k:Int) (c:List UInt8):Int:=if Aj k<0 then 0 else if okD k c then k else 0
def Bv (k:Int) (c:List UInt8):List UInt8:=if Aj k<0 then [] else if okD k c then Ed k c else []
def Cv (k:Int) (c:List UInt8):Int:=if Aj k<0 then 3 else if okD k c then 0 else 6
theorem Kq (c:List UInt8) (i:Nat):∀k,Cn c i k<256^k
 |0=>by simp[Cn]
 |k+1=>by
  have:=Kq c i k
  have h2:=(c.getD (i+k) 0).toNat_lt
  simp only[Cn,Nat.pow_succ]
  omega
theorem O9 (x:Nat):(Cu x).length≤4:=by
 unfold Cu
 split
 ·exact(E6 x).2
 ·simp
theorem Ns (W:Nat) (c:List UInt8) (j:Nat):Da W c (j+1)=Da W c j++Cu (Cn c (j*W) W):=by
 unfold Da;rw[List.range_succ,List.flatMap_append];simp
theorem H1 (W:Nat) (c:List UInt8):∀j,(Da W c j).length≤4*j
 |0=>by simp[Da]
 |j+1=>by
  rw[Ns,List.length_append]
  have:=H1 W c j
  have:=O9 (Cn c (j*W) W)
  omega
theorem oV (k:Int) (c:List UInt8) (h:c.length≤1000000):(Ed k c).length≤4000000:=by
 unfold Ed
 split
 ·omega
 ·refine Nat.le_trans (H1 _ _ _) ?_
  have:=Nat.div_le_self c.length (Aj k).toNat
  omega
theorem Co (k:Int) (hk:¬Aj k<0):k=12∨k=19∨k=20∨k=22∨k=26∨k=28∨k=30:=by
 unfold Aj at hk
 (repeat' split at hk)<;>omega
def Lq (k:Int) (c:List UInt8) (w:World) (e:Ending) (w':World):Prop:=
 e= .returned (.tuple #[.agg #[.int .i64 (Ea k c),.string ⟨(Bv k c).toArray⟩],.int .i64 (Cv k c)])∧Below w.heap.size w w'
end Go.Proofs.YtgamacmidohpfaaGreatDoor
