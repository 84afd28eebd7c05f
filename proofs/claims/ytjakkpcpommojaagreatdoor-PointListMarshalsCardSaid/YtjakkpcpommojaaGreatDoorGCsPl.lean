/- GCsPl: the texts CsPl, one behind the other. No condition but what each lemma says. -/
import Derived.Test.YtjakkpcpommojaaGreatDoorGUtf
import Derived.Test.YtjakkpcpommojaaGreatDoorGBase
namespace Go.Proofs.YtjakkpcpommojaaGreatDoor
open Go.RowKit
open Go.Lib (validD decodeL)
def Ao (k:Int):Int:=if k=12 then 0 else if k=28 then 4 else if k=30 then 2 else if k=19∨k=20∨k=22∨k=26 then 1 else-1
def oth:List Nat:=[32,39,40,41,43,44,45,46,47,58,61,63]
def prn (x:Nat):Bool:=decide ((48≤x∧x<58)∨(65≤x∧x<91)∨(97≤x∧x<123))||oth.contains x
def Bp (k:Int) (x:Nat):Bool:=
 if k=12∨k=28 then Em x else if k=30 then Em x&&decide (x<65536) else if k=22 then decide (x<128)
 else if k=26 then decide (32≤x∧x<127) else if k=20 then decide ((32≤x∧x<127)∨(160≤x∧x<256))
 else if k=19 then prn x else false
theorem Oj (x:Nat) (h:Em x=true):∃m,(Db x).length=m+1:=by
 have:=(Fu x).1
 unfold Db;rw[if_pos h]
 exact⟨(enc x).length-1,by omega⟩
def Al (k:Int) (l:List UInt8):Bool:=validD l&& !decide (Ao k<0)&&(rns l).all (Bp k)
theorem Su {k:Int} {l:List UInt8} (h:validD l=false):Al k l=false:=by unfold Al;rw[h];rfl
theorem Ll {k:Int} {l:List UInt8} (h:Ao k<0):Al k l=false:=by unfold Al;simp[h]
theorem Q7 {k:Int} {l:List UInt8} {m:Nat} (h:m<(rns l).length) (hh:Bp k ((rns l).getD m 0)=false):Al k l=false:=by
 have:(rns l).all (Bp k)=false:=by
  rw[List.all_eq_false]
  exact⟨(rns l)[m],List.getElem_mem h,by rw[List.getD_eq_getElem?_getD,List.getElem?_eq_getElem h] at hh;simpa using hh⟩
 unfold Al;rw[this];simp
theorem Sv {k:Int} {l:List UInt8} (h1:validD l=true) (h2:¬Ao k<0) (h:∀m,m<(rns l).length→Bp k ((rns l).getD m 0)=true):Al k l=true:=by
 have:(rns l).all (Bp k)=true:=by
  rw[List.all_eq_true]
  intro x hx
  obtain⟨m,hm,rfl⟩:=List.getElem_of_mem hx
  have:=h m hm
  rwa[List.getD_eq_getElem?_getD,List.getElem?_eq_getElem hm] at this
 unfold Al;rw[this,h1];simp;omega
theorem oN (l:List UInt8) (h:validD l=true):∀m,(rns l).getD m 0<1099511627776:=by
 intro m
 by_cases hm:m<(rns l).length
 ·rw[List.getD_eq_getElem?_getD,List.getElem?_eq_getElem hm]
  have:=Jr l h _ (List.getElem_mem hm)
  rw[Cn] at this
  simp;omega
 ·rw[List.getD_eq_getElem?_getD,List.getElem?_eq_none (by omega)];simp
theorem Bq {w w':World} {a:Addr} {u:Value} (h:w.cell? a=some u) (hb:Below w.heap.size w w'):w'.cell? a=some u:=by
 rw[hb.cell (Cb h)];exact h
def Ie:Nat→Nat→List UInt8
 |0,_=>[]
 |n+1,x=>UInt8.ofNat (x/256^n)::Ie n x
theorem Js (n x:Nat):(Ie n x).length=n:=by
 induction n with
 |zero=>rfl
 |succ n ih=>simp[Ie,ih]
def chS (k:Int) (l:List UInt8):List UInt8:=if Ao k=0 then l else(rns l).flatMap (Ie (Ao k).toNat)
def Gh (k:Int) (l:List UInt8):List UInt8:=if Al k l then chS k l else []
def Nk (k:Int) (l:List UInt8):Int:=if Al k l then 0 else 8
def Jt (W:Int) (x:Nat):List UInt8:=if W=0 then Db x else Ie W.toNat x
theorem Sw (W:Int) (x:Nat) (h:W≤4):(Jt W x).length≤4:=by
 unfold Jt Db
 (repeat' split)
 ·have:=(Fu x).2;omega
 ·simp
 ·rw[Js];omega
theorem Ki {f g:Nat→List UInt8}:∀l:List Nat,(∀x∈l,f x=g x)→l.flatMap f=l.flatMap g
 |[],_=>rfl
 |a::l,h=>by rw[List.flatMap_cons,List.flatMap_cons,h a List.mem_cons_self,Ki l fun x hx=>h x (List.mem_cons_of_mem _ hx)]
theorem P5 {k:Int} {l:List UInt8} (hv:Al k l=true):(rns l).flatMap (Jt (Ao k))=chS k l:=by
 have hvD:validD l=true:=by unfold Al at hv;simp at hv;exact hv.1.1
 unfold chS
 by_cases h:Ao k=0
 ·rw[if_pos h]
  have e:∀x∈rns l,Jt (Ao k) x=enc x:=fun x hx=>by
   unfold Jt Db;rw[if_pos h,if_pos (Jr l hvD x hx)]
  exact(Ki _ e).trans (Ib l hvD)
 ·rw[if_neg h]
  exact Ki _ fun x _=>by unfold Jt;rw[if_neg h]
def C9 (c:List UInt8) (i:Nat):Nat→Nat
 |0=>0
 |k+1=>C9 c i k*256+(c.getD (i+k) 0).toNat
def I2 (W:Nat) (c:List UInt8) (j:Nat):List UInt8:=(List.range j).flatMap fun q=>Db (C9 c (q*W) W)
def Gu (k:Int) (c:List UInt8):List UInt8:=if Ao k=0 then c else I2 (Ao k).toNat c (c.length/(Ao k).toNat)
def okD (k:Int) (c:List UInt8):Bool:=Al k (Gu k c)&&(chS k (Gu k c)==c)
def Jc (k:Int) (c:List UInt8):Int:=if Ao k<0 then 0 else if okD k c then k else 0
def Eo (k:Int) (c:List UInt8):List UInt8:=if Ao k<0 then [] else if okD k c then Gu k c else []
def Fi (k:Int) (c:List UInt8):Int:=if Ao k<0 then 3 else if okD k c then 0 else 6
theorem Lm (c:List UInt8) (i:Nat):∀k,C9 c i k<256^k
 |0=>by simp[C9]
 |k+1=>by
  have:=Lm c i k
  have h2:=(c.getD (i+k) 0).toNat_lt
  simp only[C9,Nat.pow_succ]
  omega
theorem Wj (x:Nat):(Db x).length≤4:=by
 unfold Db
 split
 ·exact(Fu x).2
 ·simp
theorem X7 (W:Nat) (c:List UInt8) (j:Nat):I2 W c (j+1)=I2 W c j++Db (C9 c (j*W) W):=by
 unfold I2;rw[List.range_succ,List.flatMap_append];simp
theorem Q8 (W:Nat) (c:List UInt8):∀j,(I2 W c j).length≤4*j
 |0=>by simp[I2]
 |j+1=>by
  rw[X7,List.length_append]
  have:=Q8 W c j
  have:=Wj (C9 c (j*W) W)
  omega
theorem Df (k:Int) (hk:¬Ao k<0):k=12∨k=19∨k=20∨k=22∨k=26∨k=28∨k=30:=by
 unfold Ao at hk
 (repeat' split at hk)<;>omega
def Md (k:Int) (c:List UInt8) (w:World) (e:Ending) (w':World):Prop:=
 e= .returned (.tuple #[.agg #[.int .i64 (Jc k c),.string ⟨(Eo k c).toArray⟩],.int .i64 (Fi k c)])∧Below w.heap.size w w'
end Go.Proofs.YtjakkpcpommojaaGreatDoor
