/- GCsPl: the texts Range CsPl DecPlain EncPlain, one behind the other. No condition but what each lemma says. -/
import Derived.Test.YtbedjionhmaafaaGreatDoorGBase
set_option linter.all false
namespace Go.Proofs.YtbedjionhmaafaaGreatDoor
open Go.RowKit
open Go.Lib (validD decodeL)
variable {w:World} {b:Nat} {k:Int} {l:List UInt8}
theorem Sg {P:Program} {s:ByteArray} {p:Nat} (ty:TypeId) (c:w.heap[b]?=some (.stringIter s p)) (h:p<s.size):
 ∃a,(Instr.next (.pointer (some ⟨b,0,none⟩)) true ty).run P w= .ok (.tuple #[.bool true,.int .i64 p,.int .i32 (Utf8.decode s p).1]) a∧
  a.heap[b]?=some (.stringIter s (p+(Utf8.decode s p).2))∧(∀k,k≠b→a.heap[k]?=w.heap[k]?)∧a.heap.size=w.heap.size∧a.os=w.os∧a.tape=w.tape∧a.output=w.output:=by
 have d:b<w.heap.size:=(Br.1 c).1
 refine⟨{w with heap:=w.heap.setIfInBounds b (.stringIter s (p+(Utf8.decode s p).2))},?_,?_,?_,?_,rfl,rfl,rfl⟩
 ·simp only[Instr.next,getObj,setObj,Au,Sem.run,c,Result.andThen,h,if_true]
  simp[goInt]
 all_goals grind
theorem P0 {P:Program} {s:ByteArray} {p:Nat} (ty:TypeId) (a:w.heap[b]?=some (.stringIter s p)) (h:¬p<s.size):
 (Instr.next (.pointer (some ⟨b,0,none⟩)) true ty).run P w= .ok (.tuple #[.bool false]) w:=by
 simp[Instr.next,getObj,Sem.run,a,h]
theorem I6 {B:Nat} {c a:World} (h:Below B c w) (j:B≤b) (d:∀k,k≠b→a.heap[k]?=w.heap[k]?) (m:a.heap.size=w.heap.size) (e:a.os=w.os) (f:a.tape=w.tape) (g:a.output=w.output):Below B c a:=
 h.trans ⟨e,f,g,Aa,fun k i=>d k Aa⟩
theorem lY (s:ByteArray) (i:Nat):Utf8.decode s i=decodeL (s.data.toList.drop i):=by
 have a:∀j,(s.get! j).toNat=(s.data.toList.getD j 0).toNat:=by
  intro j
  congr 1
  show s.data[j]! =_
  rw[Bo,Cg,getElem!_def]
  cases s.data[j]?<;>rfl
 rw[Lib.decode_at,Lib.decodeL_N]
 simp_all
def K8 (l:List UInt8) (j:Nat):Nat:=(((rns l).take j).flatMap enc).length
theorem Z0 (l:List UInt8):K8 l 0=0:=by simp[K8]
theorem fE (l:List UInt8) (c:validD l=true) (j:Nat) (a:(rns l).length≤j):K8 l j=l.length:=by
 grind [K8,List.take_of_length_le,Qb]
theorem Z1 (s:ByteArray) (f:validD s.data.toList=true) (j:Nat) (c:j<(rns s.data.toList).length):
 K8 s.data.toList j<s.size∧Utf8.decode s (K8 s.data.toList j)=((rns s.data.toList).getD j 0,(enc ((rns s.data.toList).getD j 0)).length)∧
  K8 s.data.toList (j+1)=K8 s.data.toList j+(enc ((rns s.data.toList).getD j 0)).length:=by
 obtain⟨l,h⟩:∃l,s.data.toList=l:=⟨_,rfl⟩
 have d:s.size=l.length:=by rw[←h,Bm];rfl
 rw[lY,d]
 rw[h] at f c⊢
 have m:=Qb l f
 have n:(rns l).getD j 0=(rns l)[j]:=by rw[Bo,Ev c];rfl
 have a:rns l=(rns l).take j++(rns l)[j]::(rns l).drop (j+1):=by
  rw[←A5 c,C5]
 have e:l=((rns l).take j).flatMap enc++(enc (rns l)[j]++((rns l).drop (j+1)).flatMap enc):=by
  rw[←A4,←Ct,←a,m]
 have o:l.drop (K8 l j)=enc (rns l)[j]++((rns l).drop (j+1)).flatMap enc:=by
  unfold K8
  conv=>lhs;arg 2;rw[e]
  rw[List.drop_left]
 have i:=Vn l f _ (Dc c)
 have g:=(N4 (rns l)[j]).1
 refine⟨?_,?_,?_⟩
 ·grind
 all_goals grind [Yh,K8,List.take_succ_eq_append_getElem,En]
theorem cg (l:List UInt8) (a:validD l=true):(rns l).length≤l.length:=by
 have h:=Qb l a
 have:∀xs:List Nat,xs.length≤(xs.flatMap enc).length:=by
  intro xs
  induction xs with
  |nil=>simp
  |cons x xs c=>grind [En,D9,N4]
 grind
def E6 (k:Int):Int:=if k=12 then 0 else if k=28 then 4 else if k=30 then 2 else if k=19∨k=20∨k=22∨k=26 then 1 else-1
def oth:List Nat:=[32,39,40,41,43,44,45,46,47,58,61,63]
def prn (x:Nat):Bool:=decide ((48≤x∧x<58)∨(65≤x∧x<91)∨(97≤x∧x<123))||oth.contains x
def Hz (k:Int) (x:Nat):Bool:=
 if k=12∨k=28 then Ly x else if k=30 then Ly x&&decide (x<65536) else if k=22 then decide (x<128)
 else if k=26 then decide (32≤x∧x<127) else if k=20 then decide ((32≤x∧x<127)∨(160≤x∧x<256))
 else if k=19 then prn x else false
def Ey (k:Int) (l:List UInt8):Bool:=validD l&& !decide (E6 k<0)&&(rns l).all (Hz k)
theorem rV (h:validD l=false):Ey k l=false:=by unfold Ey;rw[h];rfl
theorem Yi (h:E6 k<0):Ey k l=false:=by unfold Ey;simp[h]
theorem lZ {m:Nat} (h:m<(rns l).length) (a:Hz k ((rns l).getD m 0)=false):Ey k l=false:=by
 grind [rns,Hz,List.all_eq_false,List.getElem_mem,Ev,Ey]
theorem rW (d:validD l=true) (e:¬E6 k<0) (h:∀m,m<(rns l).length→Hz k ((rns l).getD m 0)=true):Ey k l=true:=by
 have:(rns l).all (Hz k)=true:=by
  rw[B0]
  intro x c
  obtain⟨m,a,rfl⟩:=Df c
  have:=h m a
  rwa[Bo,Ev a] at this
 grind [Ey]
theorem Gi {w':World} {a:Addr} {u:Value} (h:w.cell? a=some u) (c:Below w.heap.size w w'):w'.cell? a=some u:=by
 rw[c.cell (G4 h)];exact h
def Oj:Nat→Nat→List UInt8
 |0,_=>[]
 |n+1,x=>UInt8.ofNat (x/256^n)::Oj n x
theorem Qc (n x:Nat):(Oj n x).length=n:=by
 induction n with
 |zero=>rfl
 |succ n a=>simp[Oj,a]
def chS (k:Int) (l:List UInt8):List UInt8:=if E6 k=0 then l else(rns l).flatMap (Oj (E6 k).toNat)
def Sh (k:Int) (l:List UInt8):List UInt8:=if Ey k l then chS k l else []
def iO (k:Int) (l:List UInt8):Int:=if Ey k l then 0 else 8
def rX (W:Int) (x:Nat):List UInt8:=if W=0 then Qa x else Oj W.toNat x
theorem IY (W:Int) (x:Nat) (h:W≤4):(rX W x).length≤4:=by
 grind [rX,Qa,N4,Qc]
theorem Q1 {f g:Nat→List UInt8}:∀l:List Nat,(∀x∈l,f x=g x)→l.flatMap f=l.flatMap g
 |[],_=>rfl
 |a::l,h=>by rw[A4,A4,h a Bd,Q1 l fun x c=>h x (Be _ c)]
theorem CQ (c:Ey k l=true):(rns l).flatMap (rX (E6 k))=chS k l:=by
 have a:validD l=true:=by unfold Ey at c;simp at c;exact c.1.1
 unfold chS
 by_cases h:E6 k=0
 ·rw[Aj h]
  have e:∀x∈rns l,rX (E6 k) x=enc x:=fun x d=>by
   unfold rX Qa;rw[Aj h,Aj (Vn l a x d)]
  grind [Q1,trans,Qb]
 ·rw[Ai h]
  exact Q1 _ fun x _=>by unfold rX;rw[Ai h]
def Kx (c:List UInt8) (i:Nat):Nat→Nat
 |0=>0
 |k+1=>Kx c i k*256+(c.getD (i+k) 0).toNat
def Pj (W:Nat) (c:List UInt8) (j:Nat):List UInt8:=(List.range j).flatMap fun q=>Qa (Kx c (q*W) W)
def Ok (k:Int) (c:List UInt8):List UInt8:=if E6 k=0 then c else Pj (E6 k).toNat c (c.length/(E6 k).toNat)
def okD (k:Int) (c:List UInt8):Bool:=Ey k (Ok k c)&&(chS k (Ok k c)==c)
def Rx (k:Int) (c:List UInt8):Int:=if E6 k<0 then 0 else if okD k c then k else 0
def Ke (k:Int) (c:List UInt8):List UInt8:=if E6 k<0 then [] else if okD k c then Ok k c else []
def Lz (k:Int) (c:List UInt8):Int:=if E6 k<0 then 3 else if okD k c then 0 else 6
theorem Vo (c:List UInt8) (i:Nat):∀k,Kx c i k<256^k
 |0=>by simp[Kx]
 |k+1=>by
  have:=Vo c i k
  have a:=(c.getD (i+k) 0).toNat_lt
  grind [Kx,Nat.pow_succ]
theorem CR (x:Nat):(Qa x).length≤4:=by
 grind [Qa,N4]
theorem iP (W:Nat) (c:List UInt8) (j:Nat):Pj W c (j+1)=Pj W c j++Qa (Kx c (j*W) W):=by
 grind [Pj,List.range_succ]
theorem Yj (W:Nat) (c:List UInt8):∀j,(Pj W c j).length≤4*j
 |0=>by simp[Pj]
 |j+1=>by
  rw[iP,En]
  have:=Yj W c j
  have:=CR (Kx c (j*W) W)
  omega
theorem Nf (k:Int) (a:¬E6 k<0):k=12∨k=19∨k=20∨k=22∨k=26∨k=28∨k=30:=by
 grind [E6]
def Vp (k:Int) (c:List UInt8) (w:World) (e:Ending) (w':World):Prop:=
 e= .returned (.tuple #[.agg #[.int .i64 (Rx k c),.string ⟨(Ke k c).toArray⟩],.int .i64 (Lz k c)])∧Below w.heap.size w w'
end Go.Proofs.YtbedjionhmaafaaGreatDoor
namespace Go.Proofs.YtbedjionhmaafaaGreatDoor
open Go.Lib (validD decodeL)
variable {k:Int} {W:Nat}
theorem Qd {x:Nat} (h:Hz k x=true):Ly x=true:=by
 have a:x<55296→Ly x=true:=fun h=>by rw[I0];omega
 unfold Hz at h
 by_cases c:k=12∨k=28
 ·rw[Aj c] at h;exact h
 rw[Ai c] at h
 by_cases i:k=30
 ·grind
 rw[Ai i] at h
 by_cases f:k=22
 ·grind
 rw[Ai f] at h
 by_cases e:k=26
 ·grind
 rw[Ai e] at h
 by_cases g:k=20
 ·grind
 rw[Ai g] at h
 by_cases d:k=19
 ·rw[Aj d] at h
  refine a ?_
  unfold prn oth at h
  simp at h
  omega
 rw[Ai d] at h;cases h
theorem Xf:∀(W y b:Nat),b<256→Oj (W+1) (y*256+b)=Oj W y++[UInt8.ofNat b]
 |0,y,b,hb=>by
  simp only[Oj,Nat.pow_zero,Nat.div_one,Ap]
  simp_all
 |W+1,y,b,hb=>by
  have a:=Xf W y b hb
  rw[Oj,a,Oj]
  have e:(y*256+b)/256^(W+1)=y/256^W:=by
   rw[Db,Dv (256^W) 256,←Nat.div_div_eq_div_mul]
   congr 1;omega
  rw[e];rfl
theorem rY (c:List UInt8) (i:Nat):∀W,i+W≤c.length→Oj W (Kx c i W)=(c.drop i).take W:=by
 intro W
 induction W with
 |zero=>intro _;simp[Oj]
 |succ W d=>
  intro h
  have e:=(c.getD (i+W) 0).toNat_lt
  rw[Kx,Xf _ _ _ Aa,d Aa]
  have a:W<(c.drop i).length:=by rw[Eh];omega
  rw[B7 a,List.getElem_drop,Bo,Ev Aa]
  simp
def T4 (W:Nat) (c:List UInt8) (j:Nat):List Nat:=(List.range j).map fun q=>Kx c (q*W) W
theorem CS (W:Nat) (c:List UInt8) (j:Nat):T4 W c (j+1)=T4 W c j++[Kx c (j*W) W]:=by
 grind [T4,List.range_succ]
theorem rZ (W:Nat) (c:List UInt8) (j:Nat):Pj W c j=(T4 W c j).flatMap Qa:=by
 unfold Pj T4;rw[List.flatMap_map]
theorem Tb (W:Nat) (c:List UInt8):∀j,j*W≤c.length→(T4 W c j).flatMap (Oj W)=c.take (j*W)
 |0,_=>by simp[T4]
 |j+1,h=>by
  rw[C7,Dp] at h⊢
  rw[CS,Ct,Tb W c j Aa]
  simp only[A4,List.flatMap_nil,Am]
  rw[rY c _ W Aa,List.take_add]
def val (l:List UInt8):Nat:=l.foldl (fun a b=>a*256+b.toNat) 0
theorem Z2:∀(W y:Nat),y<256^W→val (Oj W y)=y
 |0,y,h=>by simp at h;subst h;rfl
 |W+1,y,h=>by
  have e:y=y/256*256+y%256:=Aa
  have d:y/256<256^W:=by
   rw[Db] at h
   omega
  have a:=Z2 W (y/256) d
  have c:=Xf W (y/256) (y%256) Aa
  rw[←e] at c
  rw[c]
  unfold val at a⊢
  rw[Dw,a]
  simp
  omega
theorem Z3 (W:Nat) (g:1≤W):∀xs a:List Nat,(∀x∈xs,x<256^W)→(∀y∈a,y<256^W)→xs.flatMap (Oj W)=a.flatMap (Oj W)→xs=a
 |[],[],_,_,_=>rfl
 |[],y::a,_,_,h=>by
  have:=Cf List.length h
  simp[Qc] at this
  omega
 |x::xs,[],_,_,h=>by
  have:=Cf List.length h
  simp[Qc] at this
  omega
 |x::xs,y::a,hx,hy,h=>by
  rw[A4,A4] at h
  obtain⟨d,f⟩:=List.append_inj h (by rw[Qc,Qc])
  have e:x=y:=by
   rw[←Z2 W x (hx x Bd),d,Z2 W y (hy y Bd)]
  rw[e,Z3 W g xs a (fun z c=>hx z (Be _ c)) (fun z c=>hy z (Be _ c)) f]
theorem Z4 (W:Nat):∀a:List Nat,(a.flatMap (Oj W)).length=a.length*W
 |[]=>by simp
 |y::a=>by rw[A4,En,Qc,Z4 W a,D9,C7];omega
theorem fF {x:Nat} (d:E6 k=(W:Int)) (c:1≤W) (h:Hz k x=true):x<256^W:=by
 have a:=Qd h
 rw[I0] at a
 rcases Nf k Aa with rfl|rfl|rfl|rfl|rfl|rfl|rfl
 ·have:W=0:=by have:E6 12=0:=rfl;omega
  omega
 ·have:W=1:=by have:E6 19=1:=rfl;omega
  subst this
  unfold Hz prn oth at h
  simp at h
  omega
 ·have:W=1:=by have:E6 20=1:=rfl;omega
  grind [Hz]
 ·have:W=1:=by have:E6 22=1:=rfl;omega
  grind [Hz]
 ·have:W=1:=by have:E6 26=1:=rfl;omega
  grind [Hz]
 ·have:W=4:=by have:E6 28=4:=rfl;omega
  subst this
  omega
 ·have:W=2:=by have:E6 30=2:=rfl;omega
  grind [Hz]
theorem xD {c:List UInt8} (e:E6 k=(W:Int)) (j:1≤W) (f:c.length%W=0) (h:∀x∈T4 W c (c.length/W),Hz k x=true):
 okD k c=true∧Ok k c=(T4 W c (c.length/W)).flatMap enc∧rns (Ok k c)=T4 W c (c.length/W):=by
 have g:c.length/W*W=c.length:=by have:=Nat.div_add_mod c.length W;rw[f,Dv] at this;omega
 have a:Ok k c=(T4 W c (c.length/W)).flatMap enc:=by
  unfold Ok
  rw[e,Ai Aa,Cr,rZ]
  exact Q1 _ fun x d=>by unfold Qa;rw[Aj (Qd (h x d))]
 obtain⟨v1,v2⟩:=rQ _ fun x d=>Qd (h x d)
 have i:Ey k (Ok k c)=true:=by
  unfold Ey
  rw[a,v1,v2]
  simp only[Cd,Et,Ca,Ar,B0]
  exact⟨Aa,h⟩
 refine⟨?_,a,by rw[a];exact v2⟩
 unfold okD
 rw[i,Cd,A9]
 unfold chS
 rw[e,Ai Aa,Cr,a,v2,Tb W c _ Aa,g,B3 (At _)]
theorem mA {c:List UInt8} (j:E6 k=(W:Int)) (i:1≤W) (f:okD k c=true):c.length%W=0∧∀x∈T4 W c (c.length/W),Hz k x=true:=by
 unfold okD at f
 simp only[Et,A9] at f
 obtain⟨h,g⟩:=f
 have d:∀x∈rns (Ok k c),Hz k x=true:=by
  unfold Ey at h
  simp only[Et,B0] at h
  exact h.2
 unfold chS at g
 rw[j,Ai Aa,Cr] at g
 have a:c.length=(rns (Ok k c)).length*W:=by have:=Cf List.length g;rw[Z4] at this;exact this.symm
 have r:c.length%W=0:=by rw[a];exact Nat.mul_mod_left _ _
 have m:c.length/W=(rns (Ok k c)).length:=by rw[a];exact Nat.mul_div_cancel _ Aa
 refine⟨r,?_⟩
 have n:(T4 W c (c.length/W)).flatMap (Oj W)=c:=by
  rw[Tb W c _ (by rw[m,a];exact At _),m,←a,B3 (At _)]
 have e:=Z3 W i _ _ (fun x p=>by
  obtain⟨q,_,rfl⟩:=Cl.1 p
  exact Vo c (q*W) W) (fun y o=>fF j i (d y o)) (n.trans g.symm)
 rw[e];exact d
theorem TI {l:List UInt8} (c:Ey k l=true):Rx k (Sh k l)=k∧Ke k (Sh k l)=l∧Lz k (Sh k l)=0:=by
 have j:¬E6 k<0:=by
  intro h;unfold Ey at c;simp[h] at c
 obtain⟨W,e⟩:∃W:Nat,E6 k=(W:Int):=⟨(E6 k).toNat,Aa⟩
 have d:∀x∈rns l,Hz k x=true:=by
  unfold Ey at c
  simp only[Et,B0] at c
  exact c.2
 have s:validD l=true:=by
  unfold Ey at c
  simp only[Et] at c
  exact c.1.1
 have key:okD k (Sh k l)=true∧Ok k (Sh k l)=l:=by
  unfold Sh
  rw[c,Aj rfl]
  by_cases o:W=0
  ·have g:E6 k=0:=by rw[e,o];rfl
   have f:chS k l=l:=by unfold chS;rw[Aj g]
   have r:Ok k l=l:=by unfold Ok;rw[Aj g]
   grind [okD]
  ·have f:chS k l=(rns l).flatMap (Oj W):=by unfold chS;rw[Ai Aa,e,Cr]
   have a:(chS k l).length=(rns l).length*W:=by rw[f,Z4]
   have i:(chS k l).length/W=(rns l).length:=by rw[a];exact Nat.mul_div_cancel _ Aa
   have p:T4 W (chS k l) ((chS k l).length/W)=rns l:=by
    refine Z3 W Aa _ _ (fun x n=>by
     obtain⟨q,_,rfl⟩:=Cl.1 n
     exact Vo _ (q*W) W) (fun y m=>fF e Aa (d y m)) ?_
    rw[Tb W _ _ (by rw[i,a];exact At _),i,←a,B3 (At _),f]
   grind [xD,chS,Nat.mul_mod_left,Qb]
 unfold Rx Ke Lz
 grind
end Go.Proofs.YtbedjionhmaafaaGreatDoor
