/- GEncode: the texts Encode, one behind the other. No condition but what each lemma says. -/
import Derived.Test.YtokmjjkbginodaaGreatDoorGValid
import Derived.Test.YtokmjjkbginodaaGreatDoorGByt
import Derived.Deep.RegionHeld3
import Derived.WalkSmall
namespace Go.Proofs.YtokmjjkbginodaaGreatDoor
open Go.RowKit
open Go.Lib (validD decodeL)
theorem G2 (l:List UInt8) (x:Nat) (z:Int) (h:(x:Int)%256=z):Lib.byteCells (l++[UInt8.ofNat x])=Lib.byteCells l++[.int .u8 z]:=by
 subst h;simp[Lib.byteCells]
theorem rN {α β:Type} (l:List α) (f:α→List β) (j:Nat) (d x:α) (hj:j<l.length) (h:l.getD j d=x):(l.take (j+1)).flatMap f=(l.take j).flatMap f++f x:=by
 rw[List.getD_eq_getElem?_getD,Am hj] at h
 rw[List.take_succ_eq_append_getElem hj,List.flatMap_append]
 simp at h;simp[h]
theorem Rj (w:World) (e:TypeId) (s:ByteArray):Below w.heap.size w (Lib.bytesWorld w e s):=
 ⟨rfl,rfl,rfl,by rw[Lib.bytesWorld_size];omega,fun j hj=>Lib.bytesWorld_at_old w e s j hj⟩
theorem Xj (w:World) (e:TypeId) (s:ByteArray) (hs:s.size≤maxLen):Dg (fun b=>w.heap.size≤b) (Lib.bytesWorld w e s) (.slice (some ⟨w.heap.size,0,none⟩) s.size (grownCap w s.size 0 e)) s.data.toList:=by
 have hl:s.data.toList.length=s.size:=by rw[Array.length_toList];rfl
 refine⟨_,_,by rw[hl],by rw[hl];exact grownCap_ge _ _ _ _,grownCap_le_maxLen _ _ _ _ hs,⟨by simp[Lib.byteCells],fun h=>by cases h⟩,fun i u hu=>⟨_,_,rfl,Nat.le_refl _,?_⟩⟩
 rw[F7] at hu
 cases hi:s.data.toList[i]? with
 |none=>rw[hi] at hu;cases hu
 |some y=>
  rw[hi] at hu
  simp only[Option.map_some,Option.some.injEq] at hu
  have hlt:i<s.size:=by rw[←hl];exact(Aw.1 hi).1
  rw[Nat.zero_add,Lib.bytesWorld_cell w e s i hlt,List.getD_eq_getElem?_getD,hi,←hu];rfl
theorem rO {w w2:World} {base b:Nat} {e:TypeId} {sz:Nat} {v:Value} {n:Nat} {xs:List Value} (h:w.ownsRow base e sz v n xs) (hb:b<base) (hk:∀k,k≠b→w2.heap[k]?=w.heap[k]?):w2.ownsRow base e sz v n xs:=by
 refine⟨h.1,?_⟩
 rcases h.2 with hn|⟨g,cap,cur,rfl,hbg,hgg,rest⟩
 ·exact .inl hn
 ·exact .inr ⟨g,cap,cur,rfl,hbg,by rw[hk g (by omega)];exact hgg,rest⟩
def Zu (k:Int) (l:List UInt8) (w:World) (e:Ending) (w':World):Prop:=
 ∃v,e= .returned (.tuple #[v,.int .i64 (I2 k l)])∧Dg (fun b=>w.heap.size≤b) w' v (Fh k l)∧Below w.heap.size w w'
theorem iV (x:Value) (n:Int) (w:World):(Instr.field 222 (.agg #[x,.int .i64 n]) 1).run Tryz.prog w= .ok (.int .i64 n) w:=by kernel_rfl
theorem rP {w:World} {m n b:Nat} (h:Es w m n b) {k:Int} (hk:¬Ar k<0):
 ∃g cap,(Instr.lookup 223 (.map (some m)) (.int .i64 k) false).run Tryz.prog w= .ok (.agg #[.func (.func g) #[] cap,.int .i64 (Ar k)]) w:=by
 obtain⟨g,cap,h1,h2⟩:=Ue (n:=n) (b:=b) hk
 refine⟨g,cap,?_⟩
 exact h.1.look1 Tryz.underlying223 Tryz.underlying3 h1
set_option maxRecDepth 100000 in
set_option maxHeartbeats 4000000 in
theorem iW (k:Int) (s:ByteArray) (hs:s.size≤16777216) (w:World) (hT:Lib.Utf8Tabs 0 1 w) (hv:Aq k s.data.toList=false):
 Calls Tryz.prog 110 #[.agg #[.int .i64 k,.string s]] w (Zu k s.data.toList w):=by
 have HV:=Zh hv;clear hv
 have HT:=Zh hT;clear hT
 go_enter Tryz.func110,Tryz.ntmps110
 go_wp2_with (go_at_call 148;refine(Kq k s hs _ (Utf8Tabs_below HT.out ((Below.refl _ _).alloc (Nat.le_refl _) _))).mono ?_;rintro e w1 ⟨rfl,hb⟩;rw[HV.out])
 go_ret2
 exact⟨_,by unfold I2;rw[HV.out];rfl,by unfold Fh;rw[HV.out];exact KF _ _,((Below.refl _ _).alloc (Nat.le_refl _) _).trans (hb.mono (by simp))⟩
set_option maxRecDepth 100000 in
set_option maxHeartbeats 4000000 in
theorem rQ (k:Int) (s:ByteArray) (hs:s.size≤16777216) (w:World) (hT:Lib.Utf8Tabs 0 1 w) (hv:Aq k s.data.toList=true):
 Calls Tryz.prog 110 #[.agg #[.int .i64 k,.string s]] w (Zu k s.data.toList w):=by
 have hW:¬Ar k<0:=by
  unfold Aq at hv;simp at hv;omega
 have HV:=Zh hv;clear hv
 have HT:=Zh hT;clear hT
 obtain⟨W,hWd⟩:∃W,Ar k=W:=⟨_,rfl⟩
 have HWd:=Zh hWd;clear hWd
 have HWn':=Zh hW;clear hW
 have hfield:=iV
 go_enter Tryz.func110,Tryz.ntmps110
 go_wp2_with (go_at_call 148;refine(Kq k s hs _ (Utf8Tabs_below HT.out ((Below.refl _ _).alloc (Nat.le_refl _) _))).mono ?_;rintro e w1 ⟨rfl,hb⟩;rw[HV.out];have hc0:w1.cell? ⟨w.heap.size,0,none⟩=some (.int .i64 k):=by{rw[hb.cell (by simp)];simp};have hc1:w1.cell? ⟨w.heap.size,1,none⟩=some (.string s):=by{rw[hb.cell (by simp)];simp})
 have hb0:Below w.heap.size w w1:=((Below.refl _ _).alloc (Nat.le_refl _) _).trans (hb.mono (by simp))
 have HB0:=Zh hb0
 clear hb hb0
 obtain⟨B,hB⟩:∃B,w.heap.size=B:=⟨_,rfl⟩
 rw[hB] at hc0 hc1⊢
 have HBn:=Zh hB;clear hB
 go_region_held3 (fun w'=>w'.cell? ⟨B,0,none⟩=some (.int .i64 k)∧w'.cell? ⟨B,1,none⟩=some (.string s)) (first|go_keep)
  (first|(go_at_call 149;refine(Hl _).mono ?_;rintro e w2 ⟨m,n2,b2,rfl,hF,hl,hb2⟩;have hd0:w2.cell? ⟨B,0,none⟩=some (.int .i64 k):=(hb2.cell (Co hc0)).trans hc0;have hd1:w2.cell? ⟨B,1,none⟩=some (.string s):=(hb2.cell (Co hc1)).trans hc1;obtain⟨g,cap,hlook⟩:=rP hF (Int.not_lt.2 HWn'.out);rw[HWd.out] at hlook;have HF:=Zh hF;clear hF;have HB2:=Zh hb2;clear hb2))
 rename_i hcs
 obtain⟨hd0,hd1⟩:=hcs
 have hbB:Below B w w2:=by have h:=HB0.out;rw[HBn.out] at h;exact h.drew.trans ((HB2.out).mono (by rw[←HBn.out];exact HB0.out.size))
 have HW4:W=0∨W=1∨W=2∨W=4:=by
  have h:=HWd.out
  rcases Dl k (Int.not_lt.2 HWn'.out) with h1|h1|h1|h1|h1|h1|h1<;>(rw[h1] at h;unfold Ar at h;simp at h;omega)
 by_cases hw0:W=0
 ·subst hw0
  have kc:=fun(w:World)=>Lib.run_convert_string_bytes (P:=Tryz.prog) w 9 22 5 s Tryz.underlying9 Tryz.underlying22 Tryz.underlying5
  go_wp2
  go_ret2
  refine⟨_,by unfold I2;rw[HV.out];rfl,?_,?_⟩
  ·unfold Fh chS;rw[HV.out,if_pos rfl,HWd.out,if_pos rfl]
   exact(Xj _ _ s (by unfold maxLen;omega)).mono fun b _ h=>Nat.le_trans hbB.size h
  ·rw[HBn.out];exact hbB.trans ((Rj _ _ s).mono (by rw[←HBn.out];exact hbB.size))
 have hwp:1≤W∧W≤4:=by omega
 have q0:(W==0)=false:=by rw[beq_eq_false_iff_ne];exact hw0
 clear hw0
 have hvD:validD s.data.toList=true:=by have h:=HV.out;unfold Aq at h;simp at h;exact h.1.1
 have HVD:=Zh hvD;clear hvD
 obtain⟨n,hn⟩:∃n,(rns s.data.toList).length=n:=⟨_,rfl⟩
 have hns:n≤16777216:=by
  have h1:=KG _ HVD.out
  have h2:s.size=s.data.toList.length:=by rw[Array.length_toList];rfl
  omega
 have Hn:=Zh hn;clear hn
 go_wp2
 obtain⟨I,hI⟩:∃I,w2.heap.size=I:=⟨_,rfl⟩
 have hit:(w2.iter s 0).heap[I]?=some (.stringIter s 0):=by rw[←hI];exact World.iter_heap _ _ _
 have hbI:Below I w2 (w2.iter s 0):=by rw[←hI];exact(Below.refl _ _).alloc (Nat.le_refl _) _
 have hIs:I+1≤(w2.iter s 0).heap.size:=by have:=(Array.getElem?_eq_some_iff.1 hit).1;omega
 obtain⟨w3,hw3⟩:∃w3,w2.iter s 0=w3:=⟨_,rfl⟩
 rw[hw3] at hit hbI hIs⊢
 rw[hI]
 clear hw3
 have HI:=Zh hI;clear hI
 have HIT:=Zh hit;clear hit
 go_loopw [5] (fun o wr=>∃(j:Nat) (acc:List UInt8),j≤n∧wr.heap[I]?=some (.stringIter s (F8 s.data.toList j))∧wr.ownsRow (I+1) 5 1 o acc.length (Lib.byteCells acc)∧acc.length≤4*j∧Below I w2 wr∧I+1≤wr.heap.size∧Hid (acc=((rns s.data.toList).take j).flatMap (I1 W.toNat)))
  (fun _ wr=>s.size-wr.iterPos I)
 case atStart=>exact⟨0,[],by omega,by rw[Ua];exact HIT.out,World.ownsRow_nil _ _ _ _,by simp,hbI,hIs,Zh (by simp)⟩
 case round=>
  obtain⟨j,acc,hj,hi,hown,hal,hbr,hIr,hacc⟩:=hrel
  have hm:wr.iterPos I=F8 s.data.toList j:=by unfold World.iterPos;rw[hi]
  by_cases hlt:j<n
  ·obtain⟨hp,hd,hstep⟩:=Ub s HVD.out j (by rw[Hn.out];exact hlt)
   obtain⟨w5,hnx,hi2,hk,h1,h2,h3,h4⟩:=Mg (P:=Tryz.prog) 0 hi hp
   rw[hd] at hnx hi2
   obtain⟨x,hx⟩:∃x,(rns s.data.toList).getD j 0=x:=⟨_,rfl⟩
   rw[hx] at hnx hi2 hstep
   simp only[] at hnx hi2
   rw[←hstep] at hi2
   obtain⟨p,hpp⟩:∃p,F8 s.data.toList j=p:=⟨_,rfl⟩
   rw[hpp] at hnx hp hm hstep
   have hb5:=Ek hbr (Nat.le_refl _) hk h1 h2 h3 h4
   have hxs:x<1114112:=by
    have h:=Km _ HVD.out x (by rw[←hx,List.getD_eq_getElem?_getD,Am (by rw[Hn.out];exact hlt)];exact List.getElem_mem _)
    rw[C3] at h;omega
   have hpos:1≤(enc x).length:=(Gf x).1
   have hown5:=rO hown (Nat.lt_succ_self I) hk
   have hI5:I+1≤w5.heap.size:=by rw[h1];exact hIr
   have HX:=Zh hx;have HI2:=Zh hi2;have HM:=Zh hm;have HP:=Zh hp;have HST:=Zh hstep;have HPO:=Zh hpos
   clear hx hi hi2 hm hp hstep hpos hd hpp hk h1 h2 h3 h4 hown
   go_wp2
   obtain⟨wo,rfl⟩:∃wo:World,wo=wr:=⟨_,rfl⟩
   go_loopw [5,8] (fun o i wr=>∃(q:Nat) (iv:Int) (ac2:List UInt8),i= .int .i64 iv∧iv=(q:Int)-1∧q≤4∧wr.ownsRow (I+1) 5 1 o ac2.length (Lib.byteCells ac2)∧ac2.length+q≤4*j+4∧Below (I+1) w5 wr∧Hid (ac2++I1 q x=acc++I1 W.toNat x))
    (fun _ i _=>(intOf i+1).toNat)
   case atStart=>exact⟨W.toNat,_,acc,rfl,by omega,by omega,hown5,by omega,Below.refl _ _,Zh rfl⟩
   case round=>
    obtain⟨q,iv,ac2,rfl,hiv,hq4,hown2,hal2,hb2,hac2⟩:=hrel
    have hqs:q=0∨q=1∨q=2∨q=3∨q=4:=by omega
    rcases hqs with hq|hq|hq|hq|hq
    ·have:iv= -1:=by omega
     subst this
     clear hiv
     go_wp2
     go_roundw
     case rel=>exact⟨j+1,ac2,by omega,(hb2.block I (by omega)).trans HI2.out,hown2,by omega,hb5.trans (hb2.mono (by omega)),Nat.le_trans hI5 hb2.size,Zh (by have h:=hac2.out;rw[hq,hacc.out] at h;rw[rN _ _ _ 0 x (by rw[Hn.out];exact hlt) HX.out];simpa[I1] using h)⟩
     case measure=>
      have hm6:wr.iterPos I=F8 s.data.toList (j+1):=by unfold World.iterPos;rw[(hb2.block I (by omega)).trans HI2.out]
      rw[hm6,HM.out,HST.out];have:=HP.out;have:=HPO.out;omega
    ·have:iv=0:=by omega
     subst this
     clear hiv
     go_wp2_with (at_builtin;refine Jr rfl _ _ 22 rfl P3 hb2 (Nat.le_trans hI5 hb2.size) hown2 rfl rfl rfl ?_ ?_ ?_;(unfold maxLen;omega);omega;rintro v1 w6 hown1 hb6- - - -;clear hown2 hb2;have hown2:=hown1;have hb2:=hb6;clear hown1 hb6)
     go_roundw
     case rel=>exact⟨0,_,ac2++[UInt8.ofNat (x/1)],rfl,by omega,by omega,by rw[G2 ac2 (x/1) ((x:Int)%256) (by omega),Ap,List.length_singleton];exact hown2,by simp;omega,hb2,Zh (by rw[List.append_assoc];have h:=hac2.out;rw[hq] at h;exact h)⟩
     case measure=>simp[intOf]
    ·have:iv=1:=by omega
     subst this
     clear hiv
     go_wp2_with (at_builtin;refine Jr rfl _ _ 22 rfl P3 hb2 (Nat.le_trans hI5 hb2.size) hown2 rfl rfl rfl ?_ ?_ ?_;(unfold maxLen;omega);omega;rintro v1 w6 hown1 hb6- - - -;clear hown2 hb2;have hown2:=hown1;have hb2:=hb6;clear hown1 hb6)
     go_roundw
     case rel=>exact⟨1,_,ac2++[UInt8.ofNat (x/256)],rfl,by omega,by omega,by rw[G2 ac2 (x/256) ((x:Int)/256%256) (by omega),Ap,List.length_singleton];exact hown2,by simp;omega,hb2,Zh (by rw[List.append_assoc];have h:=hac2.out;rw[hq] at h;exact h)⟩
     case measure=>simp[intOf]
    ·have:iv=2:=by omega
     subst this
     clear hiv
     go_wp2_with (at_builtin;refine Jr rfl _ _ 22 rfl P3 hb2 (Nat.le_trans hI5 hb2.size) hown2 rfl rfl rfl ?_ ?_ ?_;(unfold maxLen;omega);omega;rintro v1 w6 hown1 hb6- - - -;clear hown2 hb2;have hown2:=hown1;have hb2:=hb6;clear hown1 hb6)
     go_roundw
     case rel=>exact⟨2,_,ac2++[UInt8.ofNat (x/65536)],rfl,by omega,by omega,by rw[G2 ac2 (x/65536) ((x:Int)/65536) (by omega),Ap,List.length_singleton];exact hown2,by simp;omega,hb2,Zh (by rw[List.append_assoc];have h:=hac2.out;rw[hq] at h;exact h)⟩
     case measure=>simp[intOf]
    ·have:iv=3:=by omega
     subst this
     clear hiv
     go_wp2_with (at_builtin;refine Jr rfl _ _ 22 rfl P3 hb2 (Nat.le_trans hI5 hb2.size) hown2 rfl rfl rfl ?_ ?_ ?_;(unfold maxLen;omega);omega;rintro v1 w6 hown1 hb6- - - -;clear hown2 hb2;have hown2:=hown1;have hb2:=hb6;clear hown1 hb6)
     go_roundw
     case rel=>exact⟨3,_,ac2++[UInt8.ofNat (x/16777216)],rfl,by omega,by omega,by rw[G2 ac2 (x/16777216) ((x:Int)/16777216) (by omega),Ap,List.length_singleton];exact hown2,by simp;omega,hb2,Zh (by rw[List.append_assoc];have h:=hac2.out;rw[hq] at h;exact h)⟩
     case measure=>simp[intOf]
  ·have hjn:j=n:=by omega
   have hpe:¬F8 s.data.toList j<s.size:=by
    rw[X3 _ HVD.out j (by rw[Hn.out];omega)]
    have h2:s.size=s.data.toList.length:=by rw[Array.length_toList];rfl
    omega
   have hnx:=J5 (P:=Tryz.prog) 0 hi hpe
   have HJ:=Zh hjn;clear hjn hi hm hpe
   go_wp2
   go_ret2
   refine⟨_,by unfold I2;rw[HV.out];rfl,?_,by rw[HBn.out];exact hbB.trans (hbr.mono (by rw[←HI.out,←HBn.out];exact hbB.size))⟩
   have e:Fh k s.data.toList=acc:=by
    unfold Fh chS;rw[HV.out,if_pos rfl,HWd.out,if_neg (by omega),hacc.out,HJ.out,List.take_of_length_le (by rw[Hn.out];exact Nat.le_refl _)]
   rw[e]
   exact(G1.of_owns hown).mono fun b _ h=>by have:=hbB.size;have:=HI.out;omega
theorem iX (k:Int) (s:ByteArray) (hs:s.size≤16777216) (w:World) (hT:Lib.Utf8Tabs 0 1 w):
 Calls Tryz.prog 110 #[.agg #[.int .i64 k,.string s]] w (Zu k s.data.toList w):=by
 rcases Bool.eq_false_or_eq_true (Aq k s.data.toList) with h|h
 ·exact rQ k s hs w hT h
 ·exact iW k s hs w hT h
end Go.Proofs.YtokmjjkbginodaaGreatDoor
