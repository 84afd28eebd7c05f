/- GDecPlain: the texts DecPlain, one behind the other. No condition but what each lemma says. -/
import Derived.Test.YtgamacmidohpfaaGreatDoorGCsPl
namespace Go.Proofs.YtgamacmidohpfaaGreatDoor
open Go.Lib (validD decodeL)
theorem Hy {k:Int} {x:Nat} (h:Bt k x=true):Et x=true:=by
 have small:x<55296→Et x=true:=fun h=>by rw[Cv];omega
 unfold Bt at h
 by_cases c1:k=12∨k=28
 ·rw[if_pos c1] at h;exact h
 rw[if_neg c1] at h
 by_cases c2:k=30
 ·rw[if_pos c2] at h;simp at h;exact h.1
 rw[if_neg c2] at h
 by_cases c3:k=22
 ·rw[if_pos c3] at h;simp at h;exact small (by omega)
 rw[if_neg c3] at h
 by_cases c4:k=26
 ·rw[if_pos c4] at h;simp at h;exact small (by omega)
 rw[if_neg c4] at h
 by_cases c5:k=20
 ·rw[if_pos c5] at h;simp at h;exact small (by omega)
 rw[if_neg c5] at h
 by_cases c6:k=19
 ·rw[if_pos c6] at h
  refine small ?_
  unfold prn oth at h
  simp at h
  omega
 rw[if_neg c6] at h;cases h
theorem Px:∀(W y b:Nat),b<256→H5 (W+1) (y*256+b)=H5 W y++[UInt8.ofNat b]
 |0,y,b,hb=>by
  simp only[H5,Nat.pow_zero,Nat.div_one,List.nil_append]
  congr 1
  rw[←UInt8.toNat_inj]
  simp
 |W+1,y,b,hb=>by
  have ih:=Px W y b hb
  rw[H5,ih,H5]
  have e:(y*256+b)/256^(W+1)=y/256^W:=by
   rw[Nat.pow_succ,Nat.mul_comm (256^W) 256,←Nat.div_div_eq_div_mul]
   congr 1;omega
  rw[e];rfl
theorem cX (c:List UInt8) (i:Nat):∀W,i+W≤c.length→H5 W (Dd c i W)=(c.drop i).take W:=by
 intro W
 induction W with
 |zero=>intro _;simp[H5]
 |succ W ih=>
  intro h
  have hb:=(c.getD (i+W) 0).toNat_lt
  rw[Dd,Px _ _ _ (by omega),ih (by omega)]
  have hlt:W<(c.drop i).length:=by rw[Az];omega
  rw[List.take_succ_eq_append_getElem hlt,List.getElem_drop,List.getD_eq_getElem?_getD,Ar (by omega)]
  simp
def K4 (W:Nat) (c:List UInt8) (j:Nat):List Nat:=(List.range j).map fun q=>Dd c (q*W) W
theorem kX (W:Nat) (c:List UInt8) (j:Nat):K4 W c (j+1)=K4 W c j++[Dd c (j*W) W]:=by
 unfold K4;rw[List.range_succ,List.map_append];rfl
theorem cY (W:Nat) (c:List UInt8) (j:Nat):D1 W c j=(K4 W c j).flatMap Dk:=by
 unfold D1 K4;rw[List.flatMap_map]
theorem Ml (W:Nat) (c:List UInt8):∀j,j*W≤c.length→(K4 W c j).flatMap (H5 W)=c.take (j*W)
 |0,_=>by simp[K4]
 |j+1,h=>by
  rw[Nat.add_mul,Nat.one_mul] at h⊢
  rw[kX,List.flatMap_append,Ml W c j (by omega)]
  simp only[List.flatMap_cons,List.flatMap_nil,List.append_nil]
  rw[cX c _ W (by omega),List.take_add]
def val (l:List UInt8):Nat:=l.foldl (fun a b=>a*256+b.toNat) 0
theorem Sl:∀(W y:Nat),y<256^W→val (H5 W y)=y
 |0,y,h=>by simp at h;subst h;rfl
 |W+1,y,h=>by
  have e:y=y/256*256+y%256:=by omega
  have hd:y/256<256^W:=by
   rw[Nat.pow_succ] at h
   omega
  have ih:=Sl W (y/256) hd
  have hs:=Px W (y/256) (y%256) (by omega)
  rw[←e] at hs
  rw[hs]
  unfold val at ih⊢
  rw[List.foldl_append,ih]
  simp
  omega
theorem Sm (W:Nat) (hW:1≤W):∀xs ys:List Nat,(∀x∈xs,x<256^W)→(∀y∈ys,y<256^W)→xs.flatMap (H5 W)=ys.flatMap (H5 W)→xs=ys
 |[],[],_,_,_=>rfl
 |[],y::ys,_,_,h=>by
  have:=congrArg List.length h
  simp[Ji] at this
  omega
 |x::xs,[],_,_,h=>by
  have:=congrArg List.length h
  simp[Ji] at this
  omega
 |x::xs,y::ys,hx,hy,h=>by
  rw[List.flatMap_cons,List.flatMap_cons] at h
  obtain⟨h1,h2⟩:=List.append_inj h (by rw[Ji,Ji])
  have e:x=y:=by
   rw[←Sl W x (hx x List.mem_cons_self),h1,Sl W y (hy y List.mem_cons_self)]
  rw[e,Sm W hW xs ys (fun z hz=>hx z (List.mem_cons_of_mem _ hz)) (fun z hz=>hy z (List.mem_cons_of_mem _ hz)) h2]
theorem Sn (W:Nat):∀ys:List Nat,(ys.flatMap (H5 W)).length=ys.length*W
 |[]=>by simp
 |y::ys=>by rw[List.flatMap_cons,Ap,Ji,Sn W ys,Ah,Nat.add_mul];omega
theorem Vn {k:Int} {x W:Nat} (hW:Aq k=(W:Int)) (h1:1≤W) (h:Bt k x=true):x<256^W:=by
 have hs:=Hy h
 rw[Cv] at hs
 rcases De k (by omega) with rfl|rfl|rfl|rfl|rfl|rfl|rfl
 ·have:W=0:=by have:Aq 12=0:=rfl;omega
  omega
 ·have:W=1:=by have:Aq 19=1:=rfl;omega
  subst this
  unfold Bt prn oth at h
  simp at h
  omega
 ·have:W=1:=by have:Aq 20=1:=rfl;omega
  subst this
  unfold Bt at h
  simp at h
  omega
 ·have:W=1:=by have:Aq 22=1:=rfl;omega
  subst this
  unfold Bt at h
  simp at h
  omega
 ·have:W=1:=by have:Aq 26=1:=rfl;omega
  subst this
  unfold Bt at h
  simp at h
  omega
 ·have:W=4:=by have:Aq 28=4:=rfl;omega
  subst this
  omega
 ·have:W=2:=by have:Aq 30=2:=rfl;omega
  subst this
  unfold Bt at h
  simp at h
  omega
theorem W5 {k:Int} {c:List UInt8} {W:Nat} (hW:Aq k=(W:Int)) (h1:1≤W) (hm:c.length%W=0) (h:∀x∈K4 W c (c.length/W),Bt k x=true):
 okD k c=true∧E6 k c=(K4 W c (c.length/W)).flatMap enc∧rns (E6 k c)=K4 W c (c.length/W):=by
 have hl:c.length/W*W=c.length:=by have:=Nat.div_add_mod c.length W;rw[hm,Nat.mul_comm] at this;omega
 have hd:E6 k c=(K4 W c (c.length/W)).flatMap enc:=by
  unfold E6
  rw[hW,if_neg (by omega),Int.toNat_natCast,cY]
  exact Kg _ fun x hx=>by unfold Dk;rw[if_pos (Hy (h x hx))]
 obtain⟨v1,v2⟩:=cN _ fun x hx=>Hy (h x hx)
 have hv:Ao k (E6 k c)=true:=by
  unfold Ao
  rw[hd,v1,v2]
  simp only[Bool.true_and,Aw,Bool.not_eq_true',decide_eq_false_iff_not,List.all_eq_true]
  exact⟨by omega,h⟩
 refine⟨?_,hd,by rw[hd];exact v2⟩
 unfold okD
 rw[hv,Bool.true_and,beq_iff_eq]
 unfold chS
 rw[hW,if_neg (by omega),Int.toNat_natCast,hd,v2,Ml W c _ (by omega),hl,List.take_of_length_le (Nat.le_refl _)]
theorem So {k:Int} {c:List UInt8} {W:Nat} (hW:Aq k=(W:Int)) (h1:1≤W) (hok:okD k c=true):c.length%W=0∧∀x∈K4 W c (c.length/W),Bt k x=true:=by
 unfold okD at hok
 simp only[Aw,beq_iff_eq] at hok
 obtain⟨hv,he⟩:=hok
 have hall:∀x∈rns (E6 k c),Bt k x=true:=by
  unfold Ao at hv
  simp only[Aw,List.all_eq_true] at hv
  exact hv.2
 unfold chS at he
 rw[hW,if_neg (by omega),Int.toNat_natCast] at he
 have hlen:c.length=(rns (E6 k c)).length*W:=by have:=congrArg List.length he;rw[Sn] at this;exact this.symm
 have hm:c.length%W=0:=by rw[hlen];exact Nat.mul_mod_left _ _
 have hq:c.length/W=(rns (E6 k c)).length:=by rw[hlen];exact Nat.mul_div_cancel _ (by omega)
 refine⟨hm,?_⟩
 have hn:(K4 W c (c.length/W)).flatMap (H5 W)=c:=by
  rw[Ml W c _ (by rw[hq,hlen];exact Nat.le_refl _),hq,←hlen,List.take_of_length_le (Nat.le_refl _)]
 have e:=Sm W h1 _ _ (fun x hx=>by
  obtain⟨q,_,rfl⟩:=List.mem_map.1 hx
  exact Ld c (q*W) W) (fun y hy=>Vn hW h1 (hall y hy)) (hn.trans he.symm)
 rw[e];exact hall
end Go.Proofs.YtgamacmidohpfaaGreatDoor
