/- GCsPl: the texts CsPl, one behind the other. No condition but what each lemma says. -/
import Derived.Test.YtaoahmplnckhpaaGreatDoorGBase
namespace Go.Proofs.YtaoahmplnckhpaaGreatDoor
open Go.RowKit
open Go.Lib (validD decodeL)
def Ap (k:Int):Int:=if k=12 then 0 else if k=28 then 4 else if k=30 then 2 else if k=19∨k=20∨k=22∨k=26 then 1 else-1
def oth:List Nat:=[32,39,40,41,43,44,45,46,47,58,61,63]
def prn (x:Nat):Bool:=decide ((48≤x∧x<58)∨(65≤x∧x<91)∨(97≤x∧x<123))||oth.contains x
def Bz (k:Int) (x:Nat):Bool:=
 if k=12∨k=28 then E5 x else if k=30 then E5 x&&decide (x<65536) else if k=22 then decide (x<128)
 else if k=26 then decide (32≤x∧x<127) else if k=20 then decide ((32≤x∧x<127)∨(160≤x∧x<256))
 else if k=19 then prn x else false
theorem Pk (x:Nat) (h:E5 x=true):∃m,(Dt x).length=m+1:=by
 have:=(Gg x).1
 unfold Dt;rw[if_pos h]
 exact⟨(enc x).length-1,by omega⟩
def Al (k:Int) (l:List UInt8):Bool:=validD l&& !decide (Ap k<0)&&(rns l).all (Bz k)
theorem T5 {k:Int} {l:List UInt8} (h:validD l=false):Al k l=false:=by unfold Al;rw[h];rfl
theorem L8 {k:Int} {l:List UInt8} (h:Ap k<0):Al k l=false:=by unfold Al;simp[h]
theorem Sb {k:Int} {l:List UInt8} {m:Nat} (h:m<(rns l).length) (hh:Bz k ((rns l).getD m 0)=false):Al k l=false:=by
 have:(rns l).all (Bz k)=false:=by
  rw[List.all_eq_false]
  exact⟨(rns l)[m],List.getElem_mem h,by rw[List.getD_eq_getElem?_getD,An h] at hh;simpa using hh⟩
 unfold Al;rw[this];simp
theorem T6 {k:Int} {l:List UInt8} (h1:validD l=true) (h2:¬Ap k<0) (h:∀m,m<(rns l).length→Bz k ((rns l).getD m 0)=true):Al k l=true:=by
 have:(rns l).all (Bz k)=true:=by
  rw[List.all_eq_true]
  intro x hx
  obtain⟨m,hm,rfl⟩:=List.getElem_of_mem hx
  have:=h m hm
  rwa[List.getD_eq_getElem?_getD,An hm] at this
 unfold Al;rw[this,h1];simp;omega
theorem pP (l:List UInt8) (h:validD l=true):∀m,(rns l).getD m 0<1099511627776:=by
 intro m
 by_cases hm:m<(rns l).length
 ·rw[List.getD_eq_getElem?_getD,An hm]
  have:=Kc l h _ (List.getElem_mem hm)
  rw[C3] at this
  simp;omega
 ·rw[List.getD_eq_getElem?_getD,List.getElem?_eq_none (by omega)];simp
theorem B4 {w w':World} {a:Addr} {u:Value} (h:w.cell? a=some u) (hb:Below w.heap.size w w'):w'.cell? a=some u:=by
 rw[hb.cell (Co h)];exact h
def Iw:Nat→Nat→List UInt8
 |0,_=>[]
 |n+1,x=>UInt8.ofNat (x/256^n)::Iw n x
theorem Ke (n x:Nat):(Iw n x).length=n:=by
 induction n with
 |zero=>rfl
 |succ n ih=>simp[Iw,ih]
def chS (k:Int) (l:List UInt8):List UInt8:=if Ap k=0 then l else(rns l).flatMap (Iw (Ap k).toNat)
def Fc (k:Int) (l:List UInt8):List UInt8:=if Al k l then chS k l else []
def Ix (k:Int) (l:List UInt8):Int:=if Al k l then 0 else 8
def Jf (W:Int) (x:Nat):List UInt8:=if W=0 then Dt x else Iw W.toNat x
theorem L9 (W:Int) (x:Nat) (h:W≤4):(Jf W x).length≤4:=by
 unfold Jf Dt
 (repeat' split)
 ·have:=(Gg x).2;omega
 ·simp
 ·rw[Ke];omega
theorem K6 {f g:Nat→List UInt8}:∀l:List Nat,(∀x∈l,f x=g x)→l.flatMap f=l.flatMap g
 |[],_=>rfl
 |a::l,h=>by rw[List.flatMap_cons,List.flatMap_cons,h a List.mem_cons_self,K6 l fun x hx=>h x (List.mem_cons_of_mem _ hx)]
theorem Kf {k:Int} {l:List UInt8} (hv:Al k l=true):(rns l).flatMap (Jf (Ap k))=chS k l:=by
 have hvD:validD l=true:=by unfold Al at hv;simp at hv;exact hv.1.1
 unfold chS
 by_cases h:Ap k=0
 ·rw[if_pos h]
  have e:∀x∈rns l,Jf (Ap k) x=enc x:=fun x hx=>by
   unfold Jf Dt;rw[if_pos h,if_pos (Kc l hvD x hx)]
  exact(K6 _ e).trans (Iu l hvD)
 ·rw[if_neg h]
  exact K6 _ fun x _=>by unfold Jf;rw[if_neg h]
def Dl (c:List UInt8) (i:Nat):Nat→Nat
 |0=>0
 |k+1=>Dl c i k*256+(c.getD (i+k) 0).toNat
def Eb (W:Nat) (c:List UInt8) (j:Nat):List UInt8:=(List.range j).flatMap fun q=>Dt (Dl c (q*W) W)
def Fj (k:Int) (c:List UInt8):List UInt8:=if Ap k=0 then c else Eb (Ap k).toNat c (c.length/(Ap k).toNat)
def okD (k:Int) (c:List UInt8):Bool:=Al k (Fj k c)&&(chS k (Fj k c)==c)
def Fg (k:Int) (c:List UInt8):Int:=if Ap k<0 then 0 else if okD k c then k else 0
def Cw (k:Int) (c:List UInt8):List UInt8:=if Ap k<0 then [] else if okD k c then Fj k c else []
def D4 (k:Int) (c:List UInt8):Int:=if Ap k<0 then 3 else if okD k c then 0 else 6
theorem Ma (c:List UInt8) (i:Nat):∀k,Dl c i k<256^k
 |0=>by simp[Dl]
 |k+1=>by
  have:=Ma c i k
  have h2:=(c.getD (i+k) 0).toNat_lt
  simp only[Dl,Nat.pow_succ]
  omega
theorem Q8 (x:Nat):(Dt x).length≤4:=by
 unfold Dt
 split
 ·exact(Gg x).2
 ·simp
theorem Pl (W:Nat) (c:List UInt8) (j:Nat):Eb W c (j+1)=Eb W c j++Dt (Dl c (j*W) W):=by
 unfold Eb;rw[List.range_succ,List.flatMap_append];simp
theorem Jl (W:Nat) (c:List UInt8):∀j,(Eb W c j).length≤4*j
 |0=>by simp[Eb]
 |j+1=>by
  rw[Pl,Ak]
  have:=Jl W c j
  have:=Q8 (Dl c (j*W) W)
  omega
theorem tX (k:Int) (c:List UInt8) (h:c.length≤1000000):(Fj k c).length≤4000000:=by
 unfold Fj
 split
 ·omega
 ·refine Nat.le_trans (Jl _ _ _) ?_
  have:=Nat.div_le_self c.length (Ap k).toNat
  omega
theorem Dm (k:Int) (hk:¬Ap k<0):k=12∨k=19∨k=20∨k=22∨k=26∨k=28∨k=30:=by
 unfold Ap at hk
 (repeat' split at hk)<;>omega
def M7 (k:Int) (c:List UInt8) (w:World) (e:Ending) (w':World):Prop:=
 e= .returned (.tuple #[.agg #[.int .i64 (Fg k c),.string ⟨(Cw k c).toArray⟩],.int .i64 (D4 k c)])∧Below w.heap.size w w'
end Go.Proofs.YtaoahmplnckhpaaGreatDoor
