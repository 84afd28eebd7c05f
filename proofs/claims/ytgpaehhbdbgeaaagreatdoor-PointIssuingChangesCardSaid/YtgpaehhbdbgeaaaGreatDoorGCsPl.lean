/- GCsPl: the texts CsPl, one behind the other. No condition but what each lemma says. -/
import Derived.Test.YtgpaehhbdbgeaaaGreatDoorGUtf
import Derived.Test.YtgpaehhbdbgeaaaGreatDoorGBase
namespace Go.Proofs.YtgpaehhbdbgeaaaGreatDoor
open Go.RowKit
open Go.Lib (validD decodeL)
def Aj (k:Int):Int:=if k=12 then 0 else if k=28 then 4 else if k=30 then 2 else if k=19∨k=20∨k=22∨k=26 then 1 else-1
def oth:List Nat:=[32,39,40,41,43,44,45,46,47,58,61,63]
def prn (x:Nat):Bool:=decide ((48≤x∧x<58)∨(65≤x∧x<91)∨(97≤x∧x<123))||oth.contains x
def Bn (k:Int) (x:Nat):Bool:=
 if k=12∨k=28 then D5 x else if k=30 then D5 x&&decide (x<65536) else if k=22 then decide (x<128)
 else if k=26 then decide (32≤x∧x<127) else if k=20 then decide ((32≤x∧x<127)∨(160≤x∧x<256))
 else if k=19 then prn x else false
def Ah (k:Int) (l:List UInt8):Bool:=validD l&& !decide (Aj k<0)&&(rns l).all (Bn k)
theorem Zi {k:Int} {l:List UInt8} (h:validD l=false):Ah k l=false:=by unfold Ah;rw[h];rfl
theorem N3 {k:Int} {l:List UInt8} (h:Aj k<0):Ah k l=false:=by unfold Ah;simp[h]
theorem Wm {k:Int} {l:List UInt8} {m:Nat} (h:m<(rns l).length) (hh:Bn k ((rns l).getD m 0)=false):Ah k l=false:=by
 have:(rns l).all (Bn k)=false:=by
  rw[List.all_eq_false]
  exact⟨(rns l)[m],List.getElem_mem h,by rw[List.getD_eq_getElem?_getD,List.getElem?_eq_getElem h] at hh;simpa using hh⟩
 unfold Ah;rw[this];simp
theorem Zj {k:Int} {l:List UInt8} (h1:validD l=true) (h2:¬Aj k<0) (h:∀m,m<(rns l).length→Bn k ((rns l).getD m 0)=true):Ah k l=true:=by
 have:(rns l).all (Bn k)=true:=by
  rw[List.all_eq_true]
  intro x hx
  obtain⟨m,hm,rfl⟩:=List.getElem_of_mem hx
  have:=h m hm
  rwa[List.getD_eq_getElem?_getD,List.getElem?_eq_getElem hm] at this
 unfold Ah;rw[this,h1];simp;omega
theorem A0 {w w':World} {a:Addr} {u:Value} (h:w.cell? a=some u) (hb:Below w.heap.size w w'):w'.cell? a=some u:=by
 rw[hb.cell (Ba h)];exact h
def Gi:Nat→Nat→List UInt8
 |0,_=>[]
 |n+1,x=>UInt8.ofNat (x/256^n)::Gi n x
theorem Hk (n x:Nat):(Gi n x).length=n:=by
 induction n with
 |zero=>rfl
 |succ n ih=>simp[Gi,ih]
def chS (k:Int) (l:List UInt8):List UInt8:=if Aj k=0 then l else(rns l).flatMap (Gi (Aj k).toNat)
def I9 (k:Int) (l:List UInt8):List UInt8:=if Ah k l then chS k l else []
def T8 (k:Int) (l:List UInt8):Int:=if Ah k l then 0 else 8
def Zk (W:Int) (x:Nat):List UInt8:=if W=0 then Hi x else Gi W.toNat x
theorem lG (W:Int) (x:Nat) (h:W≤4):(Zk W x).length≤4:=by
 unfold Zk Hi
 (repeat' split)
 ·have:=(F5 x).2;omega
 ·simp
 ·rw[Hk];omega
theorem Ib {f g:Nat→List UInt8}:∀l:List Nat,(∀x∈l,f x=g x)→l.flatMap f=l.flatMap g
 |[],_=>rfl
 |a::l,h=>by rw[List.flatMap_cons,List.flatMap_cons,h a List.mem_cons_self,Ib l fun x hx=>h x (List.mem_cons_of_mem _ hx)]
theorem gK {k:Int} {l:List UInt8} (hv:Ah k l=true):(rns l).flatMap (Zk (Aj k))=chS k l:=by
 have hvD:validD l=true:=by unfold Ah at hv;simp at hv;exact hv.1.1
 unfold chS
 by_cases h:Aj k=0
 ·rw[if_pos h]
  have e:∀x∈rns l,Zk (Aj k) x=enc x:=fun x hx=>by
   unfold Zk Hi;rw[if_pos h,if_pos (Lo l hvD x hx)]
  exact(Ib _ e).trans (Hj l hvD)
 ·rw[if_neg h]
  exact Ib _ fun x _=>by unfold Zk;rw[if_neg h]
def B6 (c:List UInt8) (i:Nat):Nat→Nat
 |0=>0
 |k+1=>B6 c i k*256+(c.getD (i+k) 0).toNat
def G0 (W:Nat) (c:List UInt8) (j:Nat):List UInt8:=(List.range j).flatMap fun q=>Hi (B6 c (q*W) W)
def E2 (k:Int) (c:List UInt8):List UInt8:=if Aj k=0 then c else G0 (Aj k).toNat c (c.length/(Aj k).toNat)
def okD (k:Int) (c:List UInt8):Bool:=Ah k (E2 k c)&&(chS k (E2 k c)==c)
def G9 (k:Int) (c:List UInt8):Int:=if Aj k<0 then 0 else if okD k c then k else 0
def C9 (k:Int) (c:List UInt8):List UInt8:=if Aj k<0 then [] else if okD k c then E2 k c else []
def Dw (k:Int) (c:List UInt8):Int:=if Aj k<0 then 3 else if okD k c then 0 else 6
theorem Ja (c:List UInt8) (i:Nat):∀k,B6 c i k<256^k
 |0=>by simp[B6]
 |k+1=>by
  have:=Ja c i k
  have h2:=(c.getD (i+k) 0).toNat_lt
  simp only[B6,Nat.pow_succ]
  omega
theorem gL (x:Nat):(Hi x).length≤4:=by
 unfold Hi
 split
 ·exact(F5 x).2
 ·simp
theorem T9 (W:Nat) (c:List UInt8) (j:Nat):G0 W c (j+1)=G0 W c j++Hi (B6 c (j*W) W):=by
 unfold G0;rw[List.range_succ,List.flatMap_append];simp
theorem N4 (W:Nat) (c:List UInt8):∀j,(G0 W c j).length≤4*j
 |0=>by simp[G0]
 |j+1=>by
  rw[T9,List.length_append]
  have:=N4 W c j
  have:=gL (B6 c (j*W) W)
  omega
theorem Fq (k:Int) (hk:¬Aj k<0):k=12∨k=19∨k=20∨k=22∨k=26∨k=28∨k=30:=by
 unfold Aj at hk
 (repeat' split at hk)<;>omega
def Jv (k:Int) (c:List UInt8) (w:World) (e:Ending) (w':World):Prop:=
 e= .returned (.tuple #[.agg #[.int .i64 (G9 k c),.string ⟨(C9 k c).toArray⟩],.int .i64 (Dw k c)])∧Below w.heap.size w w'
end Go.Proofs.YtgpaehhbdbgeaaaGreatDoor
