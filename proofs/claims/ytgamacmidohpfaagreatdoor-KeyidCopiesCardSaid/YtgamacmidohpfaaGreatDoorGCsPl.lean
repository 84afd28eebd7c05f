/- GCsPl: the texts CsPl, one behind the other. No condition but what each lemma says. -/
import Derived.Test.YtgamacmidohpfaaGreatDoorGBase
namespace Go.Proofs.YtgamacmidohpfaaGreatDoor
open Go.RowKit
open Go.Lib (validD decodeL)
def Aq (k:Int):Int:=if k=12 then 0 else if k=28 then 4 else if k=30 then 2 else if k=19∨k=20∨k=22∨k=26 then 1 else-1
def oth:List Nat:=[32,39,40,41,43,44,45,46,47,58,61,63]
def prn (x:Nat):Bool:=decide ((48≤x∧x<58)∨(65≤x∧x<91)∨(97≤x∧x<123))||oth.contains x
def Bt (k:Int) (x:Nat):Bool:=
 if k=12∨k=28 then Et x else if k=30 then Et x&&decide (x<65536) else if k=22 then decide (x<128)
 else if k=26 then decide (32≤x∧x<127) else if k=20 then decide ((32≤x∧x<127)∨(160≤x∧x<256))
 else if k=19 then prn x else false
theorem Oh (x:Nat) (h:Et x=true):∃m,(Dk x).length=m+1:=by
 have:=(Fw x).1
 unfold Dk;rw[if_pos h]
 exact⟨(enc x).length-1,by omega⟩
def Ao (k:Int) (l:List UInt8):Bool:=validD l&& !decide (Aq k<0)&&(rns l).all (Bt k)
theorem Sc {k:Int} {l:List UInt8} (h:validD l=false):Ao k l=false:=by unfold Ao;rw[h];rfl
theorem Lb {k:Int} {l:List UInt8} (h:Aq k<0):Ao k l=false:=by unfold Ao;simp[h]
theorem Qr {k:Int} {l:List UInt8} {m:Nat} (h:m<(rns l).length) (hh:Bt k ((rns l).getD m 0)=false):Ao k l=false:=by
 have:(rns l).all (Bt k)=false:=by
  rw[List.all_eq_false]
  exact⟨(rns l)[m],List.getElem_mem h,by rw[List.getD_eq_getElem?_getD,Ar h] at hh;simpa using hh⟩
 unfold Ao;rw[this];simp
theorem Sd {k:Int} {l:List UInt8} (h1:validD l=true) (h2:¬Aq k<0) (h:∀m,m<(rns l).length→Bt k ((rns l).getD m 0)=true):Ao k l=true:=by
 have:(rns l).all (Bt k)=true:=by
  rw[List.all_eq_true]
  intro x hx
  obtain⟨m,hm,rfl⟩:=List.getElem_of_mem hx
  have:=h m hm
  rwa[List.getD_eq_getElem?_getD,Ar hm] at this
 unfold Ao;rw[this,h1];simp;omega
theorem kH (l:List UInt8) (h:validD l=true):∀m,(rns l).getD m 0<1099511627776:=by
 intro m
 by_cases hm:m<(rns l).length
 ·rw[List.getD_eq_getElem?_getD,Ar hm]
  have:=Jh l h _ (List.getElem_mem hm)
  rw[Cv] at this
  simp;omega
 ·rw[List.getD_eq_getElem?_getD,List.getElem?_eq_none (by omega)];simp
theorem Bu {w w':World} {a:Addr} {u:Value} (h:w.cell? a=some u) (hb:Below w.heap.size w w'):w'.cell? a=some u:=by
 rw[hb.cell (Ch h)];exact h
def H5:Nat→Nat→List UInt8
 |0,_=>[]
 |n+1,x=>UInt8.ofNat (x/256^n)::H5 n x
theorem Ji (n x:Nat):(H5 n x).length=n:=by
 induction n with
 |zero=>rfl
 |succ n ih=>simp[H5,ih]
def chS (k:Int) (l:List UInt8):List UInt8:=if Aq k=0 then l else(rns l).flatMap (H5 (Aq k).toNat)
def Eb (k:Int) (l:List UInt8):List UInt8:=if Ao k l then chS k l else []
def Hi (k:Int) (l:List UInt8):Int:=if Ao k l then 0 else 8
def Ip (W:Int) (x:Nat):List UInt8:=if W=0 then Dk x else H5 W.toNat x
theorem Lc (W:Int) (x:Nat) (h:W≤4):(Ip W x).length≤4:=by
 unfold Ip Dk
 (repeat' split)
 ·have:=(Fw x).2;omega
 ·simp
 ·rw[Ji];omega
theorem Kg {f g:Nat→List UInt8}:∀l:List Nat,(∀x∈l,f x=g x)→l.flatMap f=l.flatMap g
 |[],_=>rfl
 |a::l,h=>by rw[List.flatMap_cons,List.flatMap_cons,h a List.mem_cons_self,Kg l fun x hx=>h x (List.mem_cons_of_mem _ hx)]
theorem Jj {k:Int} {l:List UInt8} (hv:Ao k l=true):(rns l).flatMap (Ip (Aq k))=chS k l:=by
 have hvD:validD l=true:=by unfold Ao at hv;simp at hv;exact hv.1.1
 unfold chS
 by_cases h:Aq k=0
 ·rw[if_pos h]
  have e:∀x∈rns l,Ip (Aq k) x=enc x:=fun x hx=>by
   unfold Ip Dk;rw[if_pos h,if_pos (Jh l hvD x hx)]
  exact(Kg _ e).trans (H3 l hvD)
 ·rw[if_neg h]
  exact Kg _ fun x _=>by unfold Ip;rw[if_neg h]
def Dd (c:List UInt8) (i:Nat):Nat→Nat
 |0=>0
 |k+1=>Dd c i k*256+(c.getD (i+k) 0).toNat
def D1 (W:Nat) (c:List UInt8) (j:Nat):List UInt8:=(List.range j).flatMap fun q=>Dk (Dd c (q*W) W)
def E6 (k:Int) (c:List UInt8):List UInt8:=if Aq k=0 then c else D1 (Aq k).toNat c (c.length/(Aq k).toNat)
def okD (k:Int) (c:List UInt8):Bool:=Ao k (E6 k c)&&(chS k (E6 k c)==c)
def E2 (k:Int) (c:List UInt8):Int:=if Aq k<0 then 0 else if okD k c then k else 0
def Cm (k:Int) (c:List UInt8):List UInt8:=if Aq k<0 then [] else if okD k c then E6 k c else []
def Dl (k:Int) (c:List UInt8):Int:=if Aq k<0 then 3 else if okD k c then 0 else 6
theorem Ld (c:List UInt8) (i:Nat):∀k,Dd c i k<256^k
 |0=>by simp[Dd]
 |k+1=>by
  have:=Ld c i k
  have h2:=(c.getD (i+k) 0).toNat_lt
  simp only[Dd,Nat.pow_succ]
  omega
theorem Pv (x:Nat):(Dk x).length≤4:=by
 unfold Dk
 split
 ·exact(Fw x).2
 ·simp
theorem Oi (W:Nat) (c:List UInt8) (j:Nat):D1 W c (j+1)=D1 W c j++Dk (Dd c (j*W) W):=by
 unfold D1;rw[List.range_succ,List.flatMap_append];simp
theorem Iu (W:Nat) (c:List UInt8):∀j,(D1 W c j).length≤4*j
 |0=>by simp[D1]
 |j+1=>by
  rw[Oi,Ap]
  have:=Iu W c j
  have:=Pv (Dd c (j*W) W)
  omega
theorem oP (k:Int) (c:List UInt8) (h:c.length≤1000000):(E6 k c).length≤4000000:=by
 unfold E6
 split
 ·omega
 ·refine Nat.le_trans (Iu _ _ _) ?_
  have:=Nat.div_le_self c.length (Aq k).toNat
  omega
theorem De (k:Int) (hk:¬Aq k<0):k=12∨k=19∨k=20∨k=22∨k=26∨k=28∨k=30:=by
 unfold Aq at hk
 (repeat' split at hk)<;>omega
def Mk (k:Int) (c:List UInt8) (w:World) (e:Ending) (w':World):Prop:=
 e= .returned (.tuple #[.agg #[.int .i64 (E2 k c),.string ⟨(Cm k c).toArray⟩],.int .i64 (Dl k c)])∧Below w.heap.size w w'
end Go.Proofs.YtgamacmidohpfaaGreatDoor
