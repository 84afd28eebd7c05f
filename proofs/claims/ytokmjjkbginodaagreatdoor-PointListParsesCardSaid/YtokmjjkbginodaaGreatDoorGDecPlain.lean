/- GDecPlain: the texts DecPlain, one behind the other. No condition but what each lemma says. -/
import Derived.Test.YtokmjjkbginodaaGreatDoorGCsPl
namespace Go.Proofs.YtokmjjkbginodaaGreatDoor
open Go.Lib (validD decodeL)
theorem Ir {k:Int} {x:Nat} (h:B5 k x=true):E7 x=true:=by
 have small:x<55296→E7 x=true:=fun h=>by rw[C3];omega
 unfold B5 at h
 by_cases c1:k=12∨k=28
 ·rw[if_pos c1] at h;exact h
 rw[if_neg c1] at h
 by_cases c2:k=30
 ·rw[if_pos c2] at h;simp at h;exact h.1
 rw[if_neg c2] at h
 by_cases c3:k=22
 ·rw[if_pos c3] at h;simp at h;exact small (by omega)
 rw[if_neg c3] at h
 by_cases c4:k=26
 ·rw[if_pos c4] at h;simp at h;exact small (by omega)
 rw[if_neg c4] at h
 by_cases c5:k=20
 ·rw[if_pos c5] at h;simp at h;exact small (by omega)
 rw[if_neg c5] at h
 by_cases c6:k=19
 ·rw[if_pos c6] at h
  refine small ?_
  unfold prn oth at h
  simp at h
  omega
 rw[if_neg c6] at h;cases h
theorem Rk:∀(W y b:Nat),b<256→I1 (W+1) (y*256+b)=I1 W y++[UInt8.ofNat b]
 |0,y,b,hb=>by
  simp only[I1,Nat.pow_zero,Nat.div_one,List.nil_append]
  congr 1
  rw[←UInt8.toNat_inj]
  simp
 |W+1,y,b,hb=>by
  have ih:=Rk W y b hb
  rw[I1,ih,I1]
  have e:(y*256+b)/256^(W+1)=y/256^W:=by
   rw[Nat.pow_succ,Nat.mul_comm (256^W) 256,←Nat.div_div_eq_div_mul]
   congr 1;omega
  rw[e];rfl
theorem iY (c:List UInt8) (i:Nat):∀W,i+W≤c.length→I1 W (Dk c i W)=(c.drop i).take W:=by
 intro W
 induction W with
 |zero=>intro _;simp[I1]
 |succ W ih=>
  intro h
  have hb:=(c.getD (i+W) 0).toNat_lt
  rw[Dk,Rk _ _ _ (by omega),ih (by omega)]
  have hlt:W<(c.drop i).length:=by rw[Az];omega
  rw[List.take_succ_eq_append_getElem hlt,List.getElem_drop,List.getD_eq_getElem?_getD,Am (by omega)]
  simp
def L5 (W:Nat) (c:List UInt8) (j:Nat):List Nat:=(List.range j).map fun q=>Dk c (q*W) W
theorem rR (W:Nat) (c:List UInt8) (j:Nat):L5 W c (j+1)=L5 W c j++[Dk c (j*W) W]:=by
 unfold L5;rw[List.range_succ,List.map_append];rfl
theorem iZ (W:Nat) (c:List UInt8) (j:Nat):Ec W c j=(L5 W c j).flatMap Du:=by
 unfold Ec L5;rw[List.flatMap_map]
theorem Nn (W:Nat) (c:List UInt8):∀j,j*W≤c.length→(L5 W c j).flatMap (I1 W)=c.take (j*W)
 |0,_=>by simp[L5]
 |j+1,h=>by
  rw[Nat.add_mul,Nat.one_mul] at h⊢
  rw[rR,List.flatMap_append,Nn W c j (by omega)]
  simp only[List.flatMap_cons,List.flatMap_nil,List.append_nil]
  rw[iY c _ W (by omega),List.take_add]
def val (l:List UInt8):Nat:=l.foldl (fun a b=>a*256+b.toNat) 0
theorem Uh:∀(W y:Nat),y<256^W→val (I1 W y)=y
 |0,y,h=>by simp at h;subst h;rfl
 |W+1,y,h=>by
  have e:y=y/256*256+y%256:=by omega
  have hd:y/256<256^W:=by
   rw[Nat.pow_succ] at h
   omega
  have ih:=Uh W (y/256) hd
  have hs:=Rk W (y/256) (y%256) (by omega)
  rw[←e] at hs
  rw[hs]
  unfold val at ih⊢
  rw[List.foldl_append,ih]
  simp
  omega
theorem Ui (W:Nat) (hW:1≤W):∀xs ys:List Nat,(∀x∈xs,x<256^W)→(∀y∈ys,y<256^W)→xs.flatMap (I1 W)=ys.flatMap (I1 W)→xs=ys
 |[],[],_,_,_=>rfl
 |[],y::ys,_,_,h=>by
  have:=congrArg List.length h
  simp[Kn] at this
  omega
 |x::xs,[],_,_,h=>by
  have:=congrArg List.length h
  simp[Kn] at this
  omega
 |x::xs,y::ys,hx,hy,h=>by
  rw[List.flatMap_cons,List.flatMap_cons] at h
  obtain⟨h1,h2⟩:=List.append_inj h (by rw[Kn,Kn])
  have e:x=y:=by
   rw[←Uh W x (hx x List.mem_cons_self),h1,Uh W y (hy y List.mem_cons_self)]
  rw[e,Ui W hW xs ys (fun z hz=>hx z (List.mem_cons_of_mem _ hz)) (fun z hz=>hy z (List.mem_cons_of_mem _ hz)) h2]
theorem Uj (W:Nat):∀ys:List Nat,(ys.flatMap (I1 W)).length=ys.length*W
 |[]=>by simp
 |y::ys=>by rw[List.flatMap_cons,Ap,Kn,Uj W ys,Ag,Nat.add_mul];omega
theorem X6 {k:Int} {x W:Nat} (hW:Ar k=(W:Int)) (h1:1≤W) (h:B5 k x=true):x<256^W:=by
 have hs:=Ir h
 rw[C3] at hs
 rcases Dl k (by omega) with rfl|rfl|rfl|rfl|rfl|rfl|rfl
 ·have:W=0:=by have:Ar 12=0:=rfl;omega
  omega
 ·have:W=1:=by have:Ar 19=1:=rfl;omega
  subst this
  unfold B5 prn oth at h
  simp at h
  omega
 ·have:W=1:=by have:Ar 20=1:=rfl;omega
  subst this
  unfold B5 at h
  simp at h
  omega
 ·have:W=1:=by have:Ar 22=1:=rfl;omega
  subst this
  unfold B5 at h
  simp at h
  omega
 ·have:W=1:=by have:Ar 26=1:=rfl;omega
  subst this
  unfold B5 at h
  simp at h
  omega
 ·have:W=4:=by have:Ar 28=4:=rfl;omega
  subst this
  omega
 ·have:W=2:=by have:Ar 30=2:=rfl;omega
  subst this
  unfold B5 at h
  simp at h
  omega
theorem Zv {k:Int} {c:List UInt8} {W:Nat} (hW:Ar k=(W:Int)) (h1:1≤W) (hm:c.length%W=0) (h:∀x∈L5 W c (c.length/W),B5 k x=true):
 okD k c=true∧Fp k c=(L5 W c (c.length/W)).flatMap enc∧rns (Fp k c)=L5 W c (c.length/W):=by
 have hl:c.length/W*W=c.length:=by have:=Nat.div_add_mod c.length W;rw[hm,Nat.mul_comm] at this;omega
 have hd:Fp k c=(L5 W c (c.length/W)).flatMap enc:=by
  unfold Fp
  rw[hW,if_neg (by omega),Int.toNat_natCast,iZ]
  exact Lj _ fun x hx=>by unfold Du;rw[if_pos (Ir (h x hx))]
 obtain⟨v1,v2⟩:=iO _ fun x hx=>Ir (h x hx)
 have hv:Aq k (Fp k c)=true:=by
  unfold Aq
  rw[hd,v1,v2]
  simp only[Bool.true_and,At,Bool.not_eq_true',decide_eq_false_iff_not,List.all_eq_true]
  exact⟨by omega,h⟩
 refine⟨?_,hd,by rw[hd];exact v2⟩
 unfold okD
 rw[hv,Bool.true_and,beq_iff_eq]
 unfold chS
 rw[hW,if_neg (by omega),Int.toNat_natCast,hd,v2,Nn W c _ (by omega),hl,List.take_of_length_le (Nat.le_refl _)]
theorem Uk {k:Int} {c:List UInt8} {W:Nat} (hW:Ar k=(W:Int)) (h1:1≤W) (hok:okD k c=true):c.length%W=0∧∀x∈L5 W c (c.length/W),B5 k x=true:=by
 unfold okD at hok
 simp only[At,beq_iff_eq] at hok
 obtain⟨hv,he⟩:=hok
 have hall:∀x∈rns (Fp k c),B5 k x=true:=by
  unfold Aq at hv
  simp only[At,List.all_eq_true] at hv
  exact hv.2
 unfold chS at he
 rw[hW,if_neg (by omega),Int.toNat_natCast] at he
 have hlen:c.length=(rns (Fp k c)).length*W:=by have:=congrArg List.length he;rw[Uj] at this;exact this.symm
 have hm:c.length%W=0:=by rw[hlen];exact Nat.mul_mod_left _ _
 have hq:c.length/W=(rns (Fp k c)).length:=by rw[hlen];exact Nat.mul_div_cancel _ (by omega)
 refine⟨hm,?_⟩
 have hn:(L5 W c (c.length/W)).flatMap (I1 W)=c:=by
  rw[Nn W c _ (by rw[hq,hlen];exact Nat.le_refl _),hq,←hlen,List.take_of_length_le (Nat.le_refl _)]
 have e:=Ui W h1 _ _ (fun x hx=>by
  obtain⟨q,_,rfl⟩:=List.mem_map.1 hx
  exact Mf c (q*W) W) (fun y hy=>X6 hW h1 (hall y hy)) (hn.trans he.symm)
 rw[e];exact hall
end Go.Proofs.YtokmjjkbginodaaGreatDoor
