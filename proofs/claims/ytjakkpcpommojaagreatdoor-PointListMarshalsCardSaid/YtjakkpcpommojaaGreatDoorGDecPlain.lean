/- GDecPlain: the texts DecPlain, one behind the other. No condition but what each lemma says. -/
import Derived.Test.YtjakkpcpommojaaGreatDoorGCsPl
namespace Go.Proofs.YtjakkpcpommojaaGreatDoor
open Go.Lib (validD decodeL)
theorem H4 {k:Int} {x:Nat} (h:Bp k x=true):Em x=true:=by
 have small:x<55296→Em x=true:=fun h=>by rw[Cn];omega
 unfold Bp at h
 by_cases c1:k=12∨k=28
 ·rw[if_pos c1] at h;exact h
 rw[if_neg c1] at h
 by_cases c2:k=30
 ·rw[if_pos c2] at h;simp at h;exact h.1
 rw[if_neg c2] at h
 by_cases c3:k=22
 ·rw[if_pos c3] at h;simp at h;exact small (by omega)
 rw[if_neg c3] at h
 by_cases c4:k=26
 ·rw[if_pos c4] at h;simp at h;exact small (by omega)
 rw[if_neg c4] at h
 by_cases c5:k=20
 ·rw[if_pos c5] at h;simp at h;exact small (by omega)
 rw[if_neg c5] at h
 by_cases c6:k=19
 ·rw[if_pos c6] at h
  refine small ?_
  unfold prn oth at h
  simp at h
  omega
 rw[if_neg c6] at h;cases h
theorem P7:∀(W y b:Nat),b<256→Ie (W+1) (y*256+b)=Ie W y++[UInt8.ofNat b]
 |0,y,b,hb=>by
  simp only[Ie,Nat.pow_zero,Nat.div_one,List.nil_append]
  congr 1
  rw[←UInt8.toNat_inj]
  simp
 |W+1,y,b,hb=>by
  have ih:=P7 W y b hb
  rw[Ie,ih,Ie]
  have e:(y*256+b)/256^(W+1)=y/256^W:=by
   rw[Nat.pow_succ,Nat.mul_comm (256^W) 256,←Nat.div_div_eq_div_mul]
   congr 1;omega
  rw[e];rfl
theorem fZ (c:List UInt8) (i:Nat):∀W,i+W≤c.length→Ie W (C9 c i W)=(c.drop i).take W:=by
 intro W
 induction W with
 |zero=>intro _;simp[Ie]
 |succ W ih=>
  intro h
  have hb:=(c.getD (i+W) 0).toNat_lt
  rw[C9,P7 _ _ _ (by omega),ih (by omega)]
  have hlt:W<(c.drop i).length:=by rw[List.length_drop];omega
  rw[List.take_succ_eq_append_getElem hlt,List.getElem_drop,List.getD_eq_getElem?_getD,List.getElem?_eq_getElem (by omega)]
  simp
def Lc (W:Nat) (c:List UInt8) (j:Nat):List Nat:=(List.range j).map fun q=>C9 c (q*W) W
theorem pC (W:Nat) (c:List UInt8) (j:Nat):Lc W c (j+1)=Lc W c j++[C9 c (j*W) W]:=by
 unfold Lc;rw[List.range_succ,List.map_append];rfl
theorem gA (W:Nat) (c:List UInt8) (j:Nat):I2 W c j=(Lc W c j).flatMap Db:=by
 unfold I2 Lc;rw[List.flatMap_map]
theorem Me (W:Nat) (c:List UInt8):∀j,j*W≤c.length→(Lc W c j).flatMap (Ie W)=c.take (j*W)
 |0,_=>by simp[Lc]
 |j+1,h=>by
  rw[Nat.add_mul,Nat.one_mul] at h⊢
  rw[pC,List.flatMap_append,Me W c j (by omega)]
  simp only[List.flatMap_cons,List.flatMap_nil,List.append_nil]
  rw[fZ c _ W (by omega),List.take_add]
def val (l:List UInt8):Nat:=l.foldl (fun a b=>a*256+b.toNat) 0
theorem S4:∀(W y:Nat),y<256^W→val (Ie W y)=y
 |0,y,h=>by simp at h;subst h;rfl
 |W+1,y,h=>by
  have e:y=y/256*256+y%256:=by omega
  have hd:y/256<256^W:=by
   rw[Nat.pow_succ] at h
   omega
  have ih:=S4 W (y/256) hd
  have hs:=P7 W (y/256) (y%256) (by omega)
  rw[←e] at hs
  rw[hs]
  unfold val at ih⊢
  rw[List.foldl_append,ih]
  simp
  omega
theorem S5 (W:Nat) (hW:1≤W):∀xs ys:List Nat,(∀x∈xs,x<256^W)→(∀y∈ys,y<256^W)→xs.flatMap (Ie W)=ys.flatMap (Ie W)→xs=ys
 |[],[],_,_,_=>rfl
 |[],y::ys,_,_,h=>by
  have:=congrArg List.length h
  simp[Js] at this
  omega
 |x::xs,[],_,_,h=>by
  have:=congrArg List.length h
  simp[Js] at this
  omega
 |x::xs,y::ys,hx,hy,h=>by
  rw[List.flatMap_cons,List.flatMap_cons] at h
  obtain⟨h1,h2⟩:=List.append_inj h (by rw[Js,Js])
  have e:x=y:=by
   rw[←S4 W x (hx x List.mem_cons_self),h1,S4 W y (hy y List.mem_cons_self)]
  rw[e,S5 W hW xs ys (fun z hz=>hx z (List.mem_cons_of_mem _ hz)) (fun z hz=>hy z (List.mem_cons_of_mem _ hz)) h2]
theorem S6 (W:Nat):∀ys:List Nat,(ys.flatMap (Ie W)).length=ys.length*W
 |[]=>by simp
 |y::ys=>by rw[List.flatMap_cons,List.length_append,Js,S6 W ys,List.length_cons,Nat.add_mul];omega
theorem Wn {k:Int} {x W:Nat} (hW:Ao k=(W:Int)) (h1:1≤W) (h:Bp k x=true):x<256^W:=by
 have hs:=H4 h
 rw[Cn] at hs
 rcases Df k (by omega) with rfl|rfl|rfl|rfl|rfl|rfl|rfl
 ·have:W=0:=by have:Ao 12=0:=rfl;omega
  omega
 ·have:W=1:=by have:Ao 19=1:=rfl;omega
  subst this
  unfold Bp prn oth at h
  simp at h
  omega
 ·have:W=1:=by have:Ao 20=1:=rfl;omega
  subst this
  unfold Bp at h
  simp at h
  omega
 ·have:W=1:=by have:Ao 22=1:=rfl;omega
  subst this
  unfold Bp at h
  simp at h
  omega
 ·have:W=1:=by have:Ao 26=1:=rfl;omega
  subst this
  unfold Bp at h
  simp at h
  omega
 ·have:W=4:=by have:Ao 28=4:=rfl;omega
  subst this
  omega
 ·have:W=2:=by have:Ao 30=2:=rfl;omega
  subst this
  unfold Bp at h
  simp at h
  omega
theorem Yc {k:Int} {c:List UInt8} {W:Nat} (hW:Ao k=(W:Int)) (h1:1≤W) (hm:c.length%W=0) (h:∀x∈Lc W c (c.length/W),Bp k x=true):
 okD k c=true∧Gu k c=(Lc W c (c.length/W)).flatMap enc∧rns (Gu k c)=Lc W c (c.length/W):=by
 have hl:c.length/W*W=c.length:=by have:=Nat.div_add_mod c.length W;rw[hm,Nat.mul_comm] at this;omega
 have hd:Gu k c=(Lc W c (c.length/W)).flatMap enc:=by
  unfold Gu
  rw[hW,if_neg (by omega),Int.toNat_natCast,gA]
  exact Ki _ fun x hx=>by unfold Db;rw[if_pos (H4 (h x hx))]
 obtain⟨v1,v2⟩:=fP _ fun x hx=>H4 (h x hx)
 have hv:Al k (Gu k c)=true:=by
  unfold Al
  rw[hd,v1,v2]
  simp only[Bool.true_and,Bool.and_eq_true,Bool.not_eq_true',decide_eq_false_iff_not,List.all_eq_true]
  exact⟨by omega,h⟩
 refine⟨?_,hd,by rw[hd];exact v2⟩
 unfold okD
 rw[hv,Bool.true_and,beq_iff_eq]
 unfold chS
 rw[hW,if_neg (by omega),Int.toNat_natCast,hd,v2,Me W c _ (by omega),hl,List.take_of_length_le (Nat.le_refl _)]
theorem S7 {k:Int} {c:List UInt8} {W:Nat} (hW:Ao k=(W:Int)) (h1:1≤W) (hok:okD k c=true):c.length%W=0∧∀x∈Lc W c (c.length/W),Bp k x=true:=by
 unfold okD at hok
 simp only[Bool.and_eq_true,beq_iff_eq] at hok
 obtain⟨hv,he⟩:=hok
 have hall:∀x∈rns (Gu k c),Bp k x=true:=by
  unfold Al at hv
  simp only[Bool.and_eq_true,List.all_eq_true] at hv
  exact hv.2
 unfold chS at he
 rw[hW,if_neg (by omega),Int.toNat_natCast] at he
 have hlen:c.length=(rns (Gu k c)).length*W:=by have:=congrArg List.length he;rw[S6] at this;exact this.symm
 have hm:c.length%W=0:=by rw[hlen];exact Nat.mul_mod_left _ _
 have hq:c.length/W=(rns (Gu k c)).length:=by rw[hlen];exact Nat.mul_div_cancel _ (by omega)
 refine⟨hm,?_⟩
 have hn:(Lc W c (c.length/W)).flatMap (Ie W)=c:=by
  rw[Me W c _ (by rw[hq,hlen];exact Nat.le_refl _),hq,←hlen,List.take_of_length_le (Nat.le_refl _)]
 have e:=S5 W h1 _ _ (fun x hx=>by
  obtain⟨q,_,rfl⟩:=List.mem_map.1 hx
  exact Lm c (q*W) W) (fun y hy=>Wn hW h1 (hall y hy)) (hn.trans he.symm)
 rw[e];exact hall
end Go.Proofs.YtjakkpcpommojaaGreatDoor
