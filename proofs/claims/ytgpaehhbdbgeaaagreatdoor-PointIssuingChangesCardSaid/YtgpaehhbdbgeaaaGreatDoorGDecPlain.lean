/- GDecPlain: the texts DecPlain, one behind the other. No condition but what each lemma says. -/
import Derived.Test.YtgpaehhbdbgeaaaGreatDoorGCsPl
namespace Go.Proofs.YtgpaehhbdbgeaaaGreatDoor
open Go.Lib (validD decodeL)
theorem Gf {k:Int} {x:Nat} (h:Bn k x=true):D5 x=true:=by
 have small:x<55296→D5 x=true:=fun h=>by rw[Cq];omega
 unfold Bn at h
 by_cases c1:k=12∨k=28
 ·rw[if_pos c1] at h;exact h
 rw[if_neg c1] at h
 by_cases c2:k=30
 ·rw[if_pos c2] at h;simp at h;exact h.1
 rw[if_neg c2] at h
 by_cases c3:k=22
 ·rw[if_pos c3] at h;simp at h;exact small (by omega)
 rw[if_neg c3] at h
 by_cases c4:k=26
 ·rw[if_pos c4] at h;simp at h;exact small (by omega)
 rw[if_neg c4] at h
 by_cases c5:k=20
 ·rw[if_pos c5] at h;simp at h;exact small (by omega)
 rw[if_neg c5] at h
 by_cases c6:k=19
 ·rw[if_pos c6] at h
  refine small ?_
  unfold prn oth at h
  simp at h
  omega
 rw[if_neg c6] at h;cases h
theorem M8:∀(W y b:Nat),b<256→Gi (W+1) (y*256+b)=Gi W y++[UInt8.ofNat b]
 |0,y,b,hb=>by
  simp only[Gi,Nat.pow_zero,Nat.div_one,List.nil_append]
  congr 1
  rw[←UInt8.toNat_inj]
  simp
 |W+1,y,b,hb=>by
  have ih:=M8 W y b hb
  rw[Gi,ih,Gi]
  have e:(y*256+b)/256^(W+1)=y/256^W:=by
   rw[Nat.pow_succ,Nat.mul_comm (256^W) 256,←Nat.div_div_eq_div_mul]
   congr 1;omega
  rw[e];rfl
theorem Zq (c:List UInt8) (i:Nat):∀W,i+W≤c.length→Gi W (B6 c i W)=(c.drop i).take W:=by
 intro W
 induction W with
 |zero=>intro _;simp[Gi]
 |succ W ih=>
  intro h
  have hb:=(c.getD (i+W) 0).toNat_lt
  rw[B6,M8 _ _ _ (by omega),ih (by omega)]
  have hlt:W<(c.drop i).length:=by rw[List.length_drop];omega
  rw[List.take_succ_eq_append_getElem hlt,List.getElem_drop,List.getD_eq_getElem?_getD,List.getElem?_eq_getElem (by omega)]
  simp
def I2 (W:Nat) (c:List UInt8) (j:Nat):List Nat:=(List.range j).map fun q=>B6 c (q*W) W
theorem hU (W:Nat) (c:List UInt8) (j:Nat):I2 W c (j+1)=I2 W c j++[B6 c (j*W) W]:=by
 unfold I2;rw[List.range_succ,List.map_append];rfl
theorem Zr (W:Nat) (c:List UInt8) (j:Nat):G0 W c j=(I2 W c j).flatMap Hi:=by
 unfold G0 I2;rw[List.flatMap_map]
theorem Jw (W:Nat) (c:List UInt8):∀j,j*W≤c.length→(I2 W c j).flatMap (Gi W)=c.take (j*W)
 |0,_=>by simp[I2]
 |j+1,h=>by
  rw[Nat.add_mul,Nat.one_mul] at h⊢
  rw[hU,List.flatMap_append,Jw W c j (by omega)]
  simp only[List.flatMap_cons,List.flatMap_nil,List.append_nil]
  rw[Zq c _ W (by omega),List.take_add]
def val (l:List UInt8):Nat:=l.foldl (fun a b=>a*256+b.toNat) 0
theorem Ps:∀(W y:Nat),y<256^W→val (Gi W y)=y
 |0,y,h=>by simp at h;subst h;rfl
 |W+1,y,h=>by
  have e:y=y/256*256+y%256:=by omega
  have hd:y/256<256^W:=by
   rw[Nat.pow_succ] at h
   omega
  have ih:=Ps W (y/256) hd
  have hs:=M8 W (y/256) (y%256) (by omega)
  rw[←e] at hs
  rw[hs]
  unfold val at ih⊢
  rw[List.foldl_append,ih]
  simp
  omega
theorem Pu (W:Nat) (hW:1≤W):∀xs ys:List Nat,(∀x∈xs,x<256^W)→(∀y∈ys,y<256^W)→xs.flatMap (Gi W)=ys.flatMap (Gi W)→xs=ys
 |[],[],_,_,_=>rfl
 |[],y::ys,_,_,h=>by
  have:=congrArg List.length h
  simp[Hk] at this
  omega
 |x::xs,[],_,_,h=>by
  have:=congrArg List.length h
  simp[Hk] at this
  omega
 |x::xs,y::ys,hx,hy,h=>by
  rw[List.flatMap_cons,List.flatMap_cons] at h
  obtain⟨h1,h2⟩:=List.append_inj h (by rw[Hk,Hk])
  have e:x=y:=by
   rw[←Ps W x (hx x List.mem_cons_self),h1,Ps W y (hy y List.mem_cons_self)]
  rw[e,Pu W hW xs ys (fun z hz=>hx z (List.mem_cons_of_mem _ hz)) (fun z hz=>hy z (List.mem_cons_of_mem _ hz)) h2]
theorem Pv (W:Nat):∀ys:List Nat,(ys.flatMap (Gi W)).length=ys.length*W
 |[]=>by simp
 |y::ys=>by rw[List.flatMap_cons,List.length_append,Hk,Pv W ys,List.length_cons,Nat.add_mul];omega
theorem Sx {k:Int} {x W:Nat} (hW:Aj k=(W:Int)) (h1:1≤W) (h:Bn k x=true):x<256^W:=by
 have hs:=Gf h
 rw[Cq] at hs
 rcases Fq k (by omega) with rfl|rfl|rfl|rfl|rfl|rfl|rfl
 ·have:W=0:=by have:Aj 12=0:=rfl;omega
  omega
 ·have:W=1:=by have:Aj 19=1:=rfl;omega
  subst this
  unfold Bn prn oth at h
  simp at h
  omega
 ·have:W=1:=by have:Aj 20=1:=rfl;omega
  subst this
  unfold Bn at h
  simp at h
  omega
 ·have:W=1:=by have:Aj 22=1:=rfl;omega
  subst this
  unfold Bn at h
  simp at h
  omega
 ·have:W=1:=by have:Aj 26=1:=rfl;omega
  subst this
  unfold Bn at h
  simp at h
  omega
 ·have:W=4:=by have:Aj 28=4:=rfl;omega
  subst this
  omega
 ·have:W=2:=by have:Aj 30=2:=rfl;omega
  subst this
  unfold Bn at h
  simp at h
  omega
theorem Ue {k:Int} {c:List UInt8} {W:Nat} (hW:Aj k=(W:Int)) (h1:1≤W) (hm:c.length%W=0) (h:∀x∈I2 W c (c.length/W),Bn k x=true):
 okD k c=true∧E2 k c=(I2 W c (c.length/W)).flatMap enc∧rns (E2 k c)=I2 W c (c.length/W):=by
 have hl:c.length/W*W=c.length:=by have:=Nat.div_add_mod c.length W;rw[hm,Nat.mul_comm] at this;omega
 have hd:E2 k c=(I2 W c (c.length/W)).flatMap enc:=by
  unfold E2
  rw[hW,if_neg (by omega),Int.toNat_natCast,Zr]
  exact Ib _ fun x hx=>by unfold Hi;rw[if_pos (Gf (h x hx))]
 obtain⟨v1,v2⟩:=Zd _ fun x hx=>Gf (h x hx)
 have hv:Ah k (E2 k c)=true:=by
  unfold Ah
  rw[hd,v1,v2]
  simp only[Bool.true_and,Bool.and_eq_true,Bool.not_eq_true',decide_eq_false_iff_not,List.all_eq_true]
  exact⟨by omega,h⟩
 refine⟨?_,hd,by rw[hd];exact v2⟩
 unfold okD
 rw[hv,Bool.true_and,beq_iff_eq]
 unfold chS
 rw[hW,if_neg (by omega),Int.toNat_natCast,hd,v2,Jw W c _ (by omega),hl,List.take_of_length_le (Nat.le_refl _)]
theorem Pw {k:Int} {c:List UInt8} {W:Nat} (hW:Aj k=(W:Int)) (h1:1≤W) (hok:okD k c=true):c.length%W=0∧∀x∈I2 W c (c.length/W),Bn k x=true:=by
 unfold okD at hok
 simp only[Bool.and_eq_true,beq_iff_eq] at hok
 obtain⟨hv,he⟩:=hok
 have hall:∀x∈rns (E2 k c),Bn k x=true:=by
  unfold Ah at hv
  simp only[Bool.and_eq_true,List.all_eq_true] at hv
  exact hv.2
 unfold chS at he
 rw[hW,if_neg (by omega),Int.toNat_natCast] at he
 have hlen:c.length=(rns (E2 k c)).length*W:=by have:=congrArg List.length he;rw[Pv] at this;exact this.symm
 have hm:c.length%W=0:=by rw[hlen];exact Nat.mul_mod_left _ _
 have hq:c.length/W=(rns (E2 k c)).length:=by rw[hlen];exact Nat.mul_div_cancel _ (by omega)
 refine⟨hm,?_⟩
 have hn:(I2 W c (c.length/W)).flatMap (Gi W)=c:=by
  rw[Jw W c _ (by rw[hq,hlen];exact Nat.le_refl _),hq,←hlen,List.take_of_length_le (Nat.le_refl _)]
 have e:=Pu W h1 _ _ (fun x hx=>by
  obtain⟨q,_,rfl⟩:=List.mem_map.1 hx
  exact Ja c (q*W) W) (fun y hy=>Sx hW h1 (hall y hy)) (hn.trans he.symm)
 rw[e];exact hall
end Go.Proofs.YtgpaehhbdbgeaaaGreatDoor
