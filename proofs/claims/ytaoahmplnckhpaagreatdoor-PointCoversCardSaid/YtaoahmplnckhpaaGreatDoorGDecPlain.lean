/- GDecPlain: the texts DecPlain, one behind the other. No condition but what each lemma says. -/
import Derived.Test.YtaoahmplnckhpaaGreatDoorGCsPl
namespace Go.Proofs.YtaoahmplnckhpaaGreatDoor
open Go.Lib (validD decodeL)
theorem Gy {k:Int} {x:Nat} (h:Bh k x=true):D6 x=true:=by
 have small:x<55296→D6 x=true:=fun h=>by rw[Co];omega
 unfold Bh at h
 by_cases c1:k=12∨k=28
 ·rw[if_pos c1] at h;exact h
 rw[if_neg c1] at h
 by_cases c2:k=30
 ·rw[if_pos c2] at h;simp at h;exact h.1
 rw[if_neg c2] at h
 by_cases c3:k=22
 ·rw[if_pos c3] at h;simp at h;exact small (by omega)
 rw[if_neg c3] at h
 by_cases c4:k=26
 ·rw[if_pos c4] at h;simp at h;exact small (by omega)
 rw[if_neg c4] at h
 by_cases c5:k=20
 ·rw[if_pos c5] at h;simp at h;exact small (by omega)
 rw[if_neg c5] at h
 by_cases c6:k=19
 ·rw[if_pos c6] at h
  refine small ?_
  unfold prn oth at h
  simp at h
  omega
 rw[if_neg c6] at h;cases h
theorem N5:∀(W y b:Nat),b<256→G5 (W+1) (y*256+b)=G5 W y++[UInt8.ofNat b]
 |0,y,b,hb=>by
  simp only[G5,Nat.pow_zero,Nat.div_one,List.nil_append]
  congr 1
  rw[←UInt8.toNat_inj]
  simp
 |W+1,y,b,hb=>by
  have ih:=N5 W y b hb
  rw[G5,ih,G5]
  have e:(y*256+b)/256^(W+1)=y/256^W:=by
   rw[Nat.pow_succ,Nat.mul_comm (256^W) 256,←Nat.div_div_eq_div_mul]
   congr 1;omega
  rw[e];rfl
theorem aS (c:List UInt8) (i:Nat):∀W,i+W≤c.length→G5 W (C6 c i W)=(c.drop i).take W:=by
 intro W
 induction W with
 |zero=>intro _;simp[G5]
 |succ W ih=>
  intro h
  have hb:=(c.getD (i+W) 0).toNat_lt
  rw[C6,N5 _ _ _ (by omega),ih (by omega)]
  have hlt:W<(c.drop i).length:=by rw[Aw];omega
  rw[List.take_succ_eq_append_getElem hlt,List.getElem_drop,List.getD_eq_getElem?_getD,Ak (by omega)]
  simp
def Jq (W:Nat) (c:List UInt8) (j:Nat):List Nat:=(List.range j).map fun q=>C6 c (q*W) W
theorem jR (W:Nat) (c:List UInt8) (j:Nat):Jq W c (j+1)=Jq W c j++[C6 c (j*W) W]:=by
 unfold Jq;rw[List.range_succ,List.map_append];rfl
theorem aT (W:Nat) (c:List UInt8) (j:Nat):Hm W c j=(Jq W c j).flatMap Dc:=by
 unfold Hm Jq;rw[List.flatMap_map]
theorem Kr (W:Nat) (c:List UInt8):∀j,j*W≤c.length→(Jq W c j).flatMap (G5 W)=c.take (j*W)
 |0,_=>by simp[Jq]
 |j+1,h=>by
  rw[Nat.add_mul,Nat.one_mul] at h⊢
  rw[jR,List.flatMap_append,Kr W c j (by omega)]
  simp only[List.flatMap_cons,List.flatMap_nil,List.append_nil]
  rw[aS c _ W (by omega),List.take_add]
def val (l:List UInt8):Nat:=l.foldl (fun a b=>a*256+b.toNat) 0
theorem Qn:∀(W y:Nat),y<256^W→val (G5 W y)=y
 |0,y,h=>by simp at h;subst h;rfl
 |W+1,y,h=>by
  have e:y=y/256*256+y%256:=by omega
  have hd:y/256<256^W:=by
   rw[Nat.pow_succ] at h
   omega
  have ih:=Qn W (y/256) hd
  have hs:=N5 W (y/256) (y%256) (by omega)
  rw[←e] at hs
  rw[hs]
  unfold val at ih⊢
  rw[List.foldl_append,ih]
  simp
  omega
theorem Qo (W:Nat) (hW:1≤W):∀xs ys:List Nat,(∀x∈xs,x<256^W)→(∀y∈ys,y<256^W)→xs.flatMap (G5 W)=ys.flatMap (G5 W)→xs=ys
 |[],[],_,_,_=>rfl
 |[],y::ys,_,_,h=>by
  have:=congrArg List.length h
  simp[Ic] at this
  omega
 |x::xs,[],_,_,h=>by
  have:=congrArg List.length h
  simp[Ic] at this
  omega
 |x::xs,y::ys,hx,hy,h=>by
  rw[List.flatMap_cons,List.flatMap_cons] at h
  obtain⟨h1,h2⟩:=List.append_inj h (by rw[Ic,Ic])
  have e:x=y:=by
   rw[←Qn W x (hx x List.mem_cons_self),h1,Qn W y (hy y List.mem_cons_self)]
  rw[e,Qo W hW xs ys (fun z hz=>hx z (List.mem_cons_of_mem _ hz)) (fun z hz=>hy z (List.mem_cons_of_mem _ hz)) h2]
theorem Qp (W:Nat):∀ys:List Nat,(ys.flatMap (G5 W)).length=ys.length*W
 |[]=>by simp
 |y::ys=>by rw[List.flatMap_cons,Aj,Ic,Qp W ys,Ag,Nat.add_mul];omega
theorem Tk {k:Int} {x W:Nat} (hW:Aq k=(W:Int)) (h1:1≤W) (h:Bh k x=true):x<256^W:=by
 have hs:=Gy h
 rw[Co] at hs
 rcases Ef k (by omega) with rfl|rfl|rfl|rfl|rfl|rfl|rfl
 ·have:W=0:=by have:Aq 12=0:=rfl;omega
  omega
 ·have:W=1:=by have:Aq 19=1:=rfl;omega
  subst this
  unfold Bh prn oth at h
  simp at h
  omega
 ·have:W=1:=by have:Aq 20=1:=rfl;omega
  subst this
  unfold Bh at h
  simp at h
  omega
 ·have:W=1:=by have:Aq 22=1:=rfl;omega
  subst this
  unfold Bh at h
  simp at h
  omega
 ·have:W=1:=by have:Aq 26=1:=rfl;omega
  subst this
  unfold Bh at h
  simp at h
  omega
 ·have:W=4:=by have:Aq 28=4:=rfl;omega
  subst this
  omega
 ·have:W=2:=by have:Aq 30=2:=rfl;omega
  subst this
  unfold Bh at h
  simp at h
  omega
theorem U0 {k:Int} {c:List UInt8} {W:Nat} (hW:Aq k=(W:Int)) (h1:1≤W) (hm:c.length%W=0) (h:∀x∈Jq W c (c.length/W),Bh k x=true):
 okD k c=true∧Fu k c=(Jq W c (c.length/W)).flatMap enc∧rns (Fu k c)=Jq W c (c.length/W):=by
 have hl:c.length/W*W=c.length:=by have:=Nat.div_add_mod c.length W;rw[hm,Nat.mul_comm] at this;omega
 have hd:Fu k c=(Jq W c (c.length/W)).flatMap enc:=by
  unfold Fu
  rw[hW,if_neg (by omega),Int.toNat_natCast,aT]
  exact I3 _ fun x hx=>by unfold Dc;rw[if_pos (Gy (h x hx))]
 obtain⟨v1,v2⟩:=aH _ fun x hx=>Gy (h x hx)
 have hv:An k (Fu k c)=true:=by
  unfold An
  rw[hd,v1,v2]
  simp only[Bool.true_and,Ap,Bool.not_eq_true',decide_eq_false_iff_not,List.all_eq_true]
  exact⟨by omega,h⟩
 refine⟨?_,hd,by rw[hd];exact v2⟩
 unfold okD
 rw[hv,Bool.true_and,beq_iff_eq]
 unfold chS
 rw[hW,if_neg (by omega),Int.toNat_natCast,hd,v2,Kr W c _ (by omega),hl,List.take_of_length_le (Nat.le_refl _)]
theorem Qq {k:Int} {c:List UInt8} {W:Nat} (hW:Aq k=(W:Int)) (h1:1≤W) (hok:okD k c=true):c.length%W=0∧∀x∈Jq W c (c.length/W),Bh k x=true:=by
 unfold okD at hok
 simp only[Ap,beq_iff_eq] at hok
 obtain⟨hv,he⟩:=hok
 have hall:∀x∈rns (Fu k c),Bh k x=true:=by
  unfold An at hv
  simp only[Ap,List.all_eq_true] at hv
  exact hv.2
 unfold chS at he
 rw[hW,if_neg (by omega),Int.toNat_natCast] at he
 have hlen:c.length=(rns (Fu k c)).length*W:=by have:=congrArg List.length he;rw[Qp] at this;exact this.symm
 have hm:c.length%W=0:=by rw[hlen];exact Nat.mul_mod_left _ _
 have hq:c.length/W=(rns (Fu k c)).length:=by rw[hlen];exact Nat.mul_div_cancel _ (by omega)
 refine⟨hm,?_⟩
 have hn:(Jq W c (c.length/W)).flatMap (G5 W)=c:=by
  rw[Kr W c _ (by rw[hq,hlen];exact Nat.le_refl _),hq,←hlen,List.take_of_length_le (Nat.le_refl _)]
 have e:=Qo W h1 _ _ (fun x hx=>by
  obtain⟨q,_,rfl⟩:=List.mem_map.1 hx
  exact J1 c (q*W) W) (fun y hy=>Tk hW h1 (hall y hy)) (hn.trans he.symm)
 rw[e];exact hall
end Go.Proofs.YtaoahmplnckhpaaGreatDoor
