/- GEncode: the texts Encode, one behind the other. No condition but what each lemma says. -/
import Derived.Test.YtbedjionhmaafaaGreatDoorGValid
import Derived.Test.YtbedjionhmaafaaGreatDoorGByt
import Derived.WalkSmall
set_option linter.all false
namespace Go.Proofs.YtbedjionhmaafaaGreatDoor
open Go.RowKit
open Go.Lib (validD decodeL)
theorem L2 (l:List UInt8) (x:Nat) (z:Int) (h:(x:Int)%256=z):Lib.byteCells (l++[UInt8.ofNat x])=Lib.byteCells l++[.int .u8 z]:=by
 subst h;simp[Lib.byteCells]
theorem DD {a b:Type} (l:List a) (f:a→List b) (j:Nat) (d x:a) (c:j<l.length) (h:l.getD j d=x):(l.take (j+1)).flatMap f=(l.take j).flatMap f++f x:=by
 grind [Ev,List.take_succ_eq_append_getElem]
theorem Xg (w:World) (e:TypeId) (s:ByteArray):Below w.heap.size w (Lib.bytesWorld w e s):=
 ⟨rfl,rfl,rfl,by rw[Lib.bytesWorld_size];omega,fun j a=>Lib.bytesWorld_at_old w e s j a⟩
theorem eG (w:World) (e:TypeId) (s:ByteArray) (g:s.size≤maxLen):Je (fun b=>w.heap.size≤b) (Lib.bytesWorld w e s) (.slice (some ⟨w.heap.size,0,none⟩) s.size (grownCap w s.size 0 e)) s.data.toList:=by
 have f:s.data.toList.length=s.size:=by rw[Bm];rfl
 refine⟨_,_,by rw[f],by rw[f];exact grownCap_ge _ _ _ _,grownCap_le_maxLen _ _ _ _ g,⟨by simp[Lib.byteCells],fun h=>by cases h⟩,fun i u a=>⟨_,_,rfl,At _,?_⟩⟩
 rw[M7] at a
 cases c:s.data.toList[i]? with
 |none=>rw[c] at a;cases a
 |some y=>
  rw[c] at a
  simp only[Ch,A7] at a
  have d:i<s.size:=by rw[←f];exact(Ew.1 c).1
  rw[A0,Lib.bytesWorld_cell w e s i d,Bo,c,←a];rfl
theorem DE {w i:World} {a b:Nat} {e:TypeId} {sz:Nat} {v:Value} {n:Nat} {xs:List Value} (h:w.ownsRow a e sz v n xs) (m:b<a) (l:∀k,k≠b→i.heap[k]?=w.heap[k]?):i.ownsRow a e sz v n xs:=by
 refine⟨h.1,?_⟩
 rcases h.2 with j|⟨g,f,cur,rfl,d,c,rest⟩
 ·exact .inl j
 ·exact .inr ⟨g,f,cur,rfl,d,by rw[l g Aa];exact c,rest⟩
def iV (k:Int) (l:List UInt8) (w:World) (e:Ending) (w':World):Prop:=
 ∃v,e= .returned (.tuple #[v,.int .i64 (iO k l)])∧Je (fun b=>w.heap.size≤b) w' v (Sh k l)∧Below w.heap.size w w'
theorem sC (x:Value) (n:Int) (w:World):(Instr.field 595 (.agg #[x,.int .i64 n]) 1).run Tryz.prog w= .ok (.int .i64 n) w:=Ac
theorem DF {w:World} {m n b:Nat} (h:Jf w m n b) {k:Int} (d:¬E6 k<0):
 ∃g a,(Instr.lookup 596 (.map (some m)) (.int .i64 k) false).run Tryz.prog w= .ok (.agg #[.func (.func g) #[] a,.int .i64 (E6 k)]) w:=by
 obtain⟨g,a,c,e⟩:=Z8 (n:=n) (b:=b) d
 refine⟨g,a,?_⟩
 exact h.1.look1 Tryz.underlying596 Tryz.underlying3 c
set_option maxRecDepth 100000 in
set_option maxHeartbeats 4000000 in
theorem sE (k:Int) (s:ByteArray) (hs:s.size≤16777216) (w:World) (hT:Lib.Utf8Tabs 6 7 w) (hv:Ey k s.data.toList=false):
 Calls Tryz.prog 385 #[.agg #[.int .i64 k,.string s]] w (iV k s.data.toList w):=by
 have HV:=Zh hv;clear hv
 have HT:=Zh hT;clear hT
 go_enter Tryz.func385,Tryz.ntmps385
 go_wp2_with (go_at_call 408;refine(Td k s hs _ (Utf8Tabs_below HT.out ((Bq _ _).alloc (At _) _))).mono ?_;rintro e w1 ⟨rfl,hb⟩;rw[HV.out])
 go_ret2
 exact⟨_,by unfold iO;rw[HV.out];rfl,by unfold Sh;rw[HV.out];exact cf _ _,((Bq _ _).alloc (At _) _).trans (hb.mono Ab)⟩
set_option maxRecDepth 100000 in
set_option maxHeartbeats 4000000 in
theorem DG (k:Int) (s:ByteArray) (hs:s.size≤16777216) (w:World) (hT:Lib.Utf8Tabs 6 7 w) (hv:Ey k s.data.toList=true):
 Calls Tryz.prog 385 #[.agg #[.int .i64 k,.string s]] w (iV k s.data.toList w):=by
 have hW:¬E6 k<0:=by
  unfold Ey at hv;simp at hv;omega
 have HV:=Zh hv;clear hv
 have HT:=Zh hT;clear hT
 obtain⟨W,hWd⟩:∃W,E6 k=W:=⟨_,rfl⟩
 have HWd:=Zh hWd;clear hWd
 have HWn':=Zh hW;clear hW
 have hfield:=sC
 go_enter Tryz.func385,Tryz.ntmps385
 go_wp2_with (go_at_call 408;refine(Td k s hs _ (Utf8Tabs_below HT.out ((Bq _ _).alloc (At _) _))).mono ?_;rintro e w1 ⟨rfl,hb⟩;rw[HV.out];have hc0:w1.cell? ⟨w.heap.size,0,none⟩=some (.int .i64 k):=by{rw[hb.cell Ab];simp};have hc1:w1.cell? ⟨w.heap.size,1,none⟩=some (.string s):=by{rw[hb.cell Ab];simp})
 have hb0:Below w.heap.size w w1:=((Bq _ _).alloc (At _) _).trans (hb.mono Ab)
 have HB0:=Zh hb0
 clear hb hb0
 obtain⟨B,hB⟩:∃B,w.heap.size=B:=⟨_,rfl⟩
 rw[hB] at hc0 hc1⊢
 have HBn:=Zh hB;clear hB
 go_region_held3 (fun w'=>w'.cell? ⟨B,0,none⟩=some (.int .i64 k)∧w'.cell? ⟨B,1,none⟩=some (.string s)) (first|go_keep)
  (first|(go_at_call 409;refine(Oe _).mono ?_;rintro e w2 ⟨m,n2,b2,rfl,hF,hl,hb2⟩;have hd0:w2.cell? ⟨B,0,none⟩=some (.int .i64 k):=(hb2.cell (G4 hc0)).trans hc0;have hd1:w2.cell? ⟨B,1,none⟩=some (.string s):=(hb2.cell (G4 hc1)).trans hc1;obtain⟨g,cap,hlook⟩:=DF hF (Int.not_lt.2 HWn'.out);rw[HWd.out] at hlook;have HF:=Zh hF;clear hF;have HB2:=Zh hb2;clear hb2))
 rename_i hcs
 obtain⟨hd0,hd1⟩:=hcs
 have hbB:Below B w w2:=by have h:=HB0.out;rw[HBn.out] at h;exact h.drew.trans ((HB2.out).mono (by rw[←HBn.out];exact HB0.out.size))
 have HW4:W=0∨W=1∨W=2∨W=4:=by
  have h:=HWd.out
  rcases Nf k (Int.not_lt.2 HWn'.out) with h1|h1|h1|h1|h1|h1|h1<;>(grind [E6])
 by_cases hw0:W=0
 ·subst hw0
  have kc:=fun(w:World)=>Lib.run_convert_string_bytes (P:=Tryz.prog) w 9 22 5 s Tryz.underlying9 Tryz.underlying22 Tryz.underlying5
  go_wp2
  go_ret2
  refine⟨_,by unfold iO;rw[HV.out];rfl,?_,?_⟩
  ·unfold Sh chS;rw[HV.out,Aj rfl,HWd.out,Aj rfl]
   exact(eG _ _ s (by unfold maxLen;omega)).mono fun b _ h=>Bi hbB.size h
  ·rw[HBn.out];exact hbB.trans ((Xg _ _ s).mono (by rw[←HBn.out];exact hbB.size))
 have hwp:1≤W∧W≤4:=Aa
 have q0:(W==0)=false:=by rw[An];exact hw0
 clear hw0
 have hvD:validD s.data.toList=true:=by have h:=HV.out;unfold Ey at h;simp at h;exact h.1.1
 have HVD:=Zh hvD;clear hvD
 obtain⟨n,hn⟩:∃n,(rns s.data.toList).length=n:=⟨_,rfl⟩
 have hns:n≤16777216:=by
  have h1:=cg _ HVD.out
  have h2:s.size=s.data.toList.length:=by rw[Bm];rfl
  omega
 have Hn:=Zh hn;clear hn
 go_wp2
 obtain⟨I,hI⟩:∃I,w2.heap.size=I:=⟨_,rfl⟩
 have hit:(w2.iter s 0).heap[I]?=some (.stringIter s 0):=by rw[←hI];exact World.iter_heap _ _ _
 have hbI:Below I w2 (w2.iter s 0):=by rw[←hI];exact(Bq _ _).alloc (At _) _
 have hIs:I+1≤(w2.iter s 0).heap.size:=by have:=(Br.1 hit).1;omega
 obtain⟨w3,hw3⟩:∃w3,w2.iter s 0=w3:=⟨_,rfl⟩
 rw[hw3] at hit hbI hIs⊢
 rw[hI]
 clear hw3
 have HI:=Zh hI;clear hI
 have HIT:=Zh hit;clear hit
 go_loopw [5] (fun o wr=>∃(j:Nat) (acc:List UInt8),j≤n∧wr.heap[I]?=some (.stringIter s (K8 s.data.toList j))∧wr.ownsRow (I+1) 5 1 o acc.length (Lib.byteCells acc)∧acc.length≤4*j∧Below I w2 wr∧I+1≤wr.heap.size∧Hid (acc=((rns s.data.toList).take j).flatMap (Oj W.toNat)))
  (fun _ wr=>s.size-wr.iterPos I)
 case atStart=>exact⟨0,[],Aa,by rw[Z0];exact HIT.out,World.ownsRow_nil _ _ _ _,Ab,hbI,hIs,Zh Ab⟩
 case round=>
  obtain⟨j,acc,hj,hi,hown,hal,hbr,hIr,hacc⟩:=hrel
  have hm:wr.iterPos I=K8 s.data.toList j:=by unfold World.iterPos;rw[hi]
  by_cases hlt:j<n
  ·obtain⟨hp,hd,hstep⟩:=Z1 s HVD.out j (by rw[Hn.out];exact hlt)
   obtain⟨w5,hnx,hi2,hk,h1,h2,h3,h4⟩:=Sg (P:=Tryz.prog) 0 hi hp
   rw[hd] at hnx hi2
   obtain⟨x,hx⟩:∃x,(rns s.data.toList).getD j 0=x:=⟨_,rfl⟩
   rw[hx] at hnx hi2 hstep
   simp only[] at hnx hi2
   rw[←hstep] at hi2
   obtain⟨p,hpp⟩:∃p,K8 s.data.toList j=p:=⟨_,rfl⟩
   rw[hpp] at hnx hp hm hstep
   have hb5:=I6 hbr (At _) hk h1 h2 h3 h4
   have hxs:x<1114112:=by
    have h:=Vn _ HVD.out x (by rw[←hx,Bo,Ev (by rw[Hn.out];exact hlt)];exact Dc _)
    rw[I0] at h;omega
   have hpos:1≤(enc x).length:=(N4 x).1
   have hown5:=DE hown (Nat.lt_succ_self I) hk
   have hI5:I+1≤w5.heap.size:=by rw[h1];exact hIr
   have HX:=Zh hx;have HI2:=Zh hi2;have HM:=Zh hm;have HP:=Zh hp;have HST:=Zh hstep;have HPO:=Zh hpos
   clear hx hi hi2 hm hp hstep hpos hd hpp hk h1 h2 h3 h4 hown
   go_wp2
   obtain⟨wo,rfl⟩:∃wo:World,wo=wr:=⟨_,rfl⟩
   go_loopw [5,8] (fun o i wr=>∃(q:Nat) (iv:Int) (ac2:List UInt8),i= .int .i64 iv∧iv=(q:Int)-1∧q≤4∧wr.ownsRow (I+1) 5 1 o ac2.length (Lib.byteCells ac2)∧ac2.length+q≤4*j+4∧Below (I+1) w5 wr∧Hid (ac2++Oj q x=acc++Oj W.toNat x))
    (fun _ i _=>(intOf i+1).toNat)
   case atStart=>exact⟨W.toNat,_,acc,rfl,Aa,Aa,hown5,Aa,Bq _ _,Zh rfl⟩
   case round=>
    obtain⟨q,iv,ac2,rfl,hiv,hq4,hown2,hal2,hb2,hac2⟩:=hrel
    have hqs:q=0∨q=1∨q=2∨q=3∨q=4:=Aa
    rcases hqs with hq|hq|hq|hq|hq
    ·have:iv= -1:=by omega
     subst this
     clear hiv
     go_wp2
     go_roundw
     case rel=>exact⟨j+1,ac2,Aa,(hb2.block I Aa).trans HI2.out,hown2,Aa,hb5.trans (hb2.mono Aa),Bi hI5 hb2.size,Zh (by have h:=hac2.out;rw[hq,hacc.out] at h;rw[DD _ _ _ 0 x (by rw[Hn.out];exact hlt) HX.out];simpa[Oj] using h)⟩
     case measure=>
      have hm6:wr.iterPos I=K8 s.data.toList (j+1):=by unfold World.iterPos;rw[(hb2.block I Aa).trans HI2.out]
      rw[hm6,HM.out,HST.out];have:=HP.out;have:=HPO.out;omega
    ·have:iv=0:=by omega
     subst this
     clear hiv
     go_wp2_with (at_builtin;refine Pi rfl _ _ 22 rfl Vr hb2 (Bi hI5 hb2.size) hown2 rfl rfl rfl ?_ ?_ ?_;(unfold maxLen;omega);omega;rintro v1 w6 hown1 hb6- - - -;clear hown2 hb2;have hown2:=hown1;have hb2:=hb6;clear hown1 hb6)
     go_roundw
     case rel=>exact⟨0,_,ac2++[UInt8.ofNat (x/1)],rfl,Aa,Aa,by grind [L2,En,List.length_singleton],Af,hb2,Zh (by rw[Bt];have h:=hac2.out;rw[hq] at h;exact h)⟩
     case measure=>simp[intOf]
    ·have:iv=1:=by omega
     subst this
     clear hiv
     go_wp2_with (at_builtin;refine Pi rfl _ _ 22 rfl Vr hb2 (Bi hI5 hb2.size) hown2 rfl rfl rfl ?_ ?_ ?_;(unfold maxLen;omega);omega;rintro v1 w6 hown1 hb6- - - -;clear hown2 hb2;have hown2:=hown1;have hb2:=hb6;clear hown1 hb6)
     go_roundw
     case rel=>exact⟨1,_,ac2++[UInt8.ofNat (x/256)],rfl,Aa,Aa,by grind [L2,En,List.length_singleton],Af,hb2,Zh (by rw[Bt];have h:=hac2.out;rw[hq] at h;exact h)⟩
     case measure=>simp[intOf]
    ·have:iv=2:=by omega
     subst this
     clear hiv
     go_wp2_with (at_builtin;refine Pi rfl _ _ 22 rfl Vr hb2 (Bi hI5 hb2.size) hown2 rfl rfl rfl ?_ ?_ ?_;(unfold maxLen;omega);omega;rintro v1 w6 hown1 hb6- - - -;clear hown2 hb2;have hown2:=hown1;have hb2:=hb6;clear hown1 hb6)
     go_roundw
     case rel=>exact⟨2,_,ac2++[UInt8.ofNat (x/65536)],rfl,Aa,Aa,by grind [L2,En,List.length_singleton],Af,hb2,Zh (by rw[Bt];have h:=hac2.out;rw[hq] at h;exact h)⟩
     case measure=>simp[intOf]
    ·have:iv=3:=by omega
     subst this
     clear hiv
     go_wp2_with (at_builtin;refine Pi rfl _ _ 22 rfl Vr hb2 (Bi hI5 hb2.size) hown2 rfl rfl rfl ?_ ?_ ?_;(unfold maxLen;omega);omega;rintro v1 w6 hown1 hb6- - - -;clear hown2 hb2;have hown2:=hown1;have hb2:=hb6;clear hown1 hb6)
     go_roundw
     case rel=>exact⟨3,_,ac2++[UInt8.ofNat (x/16777216)],rfl,Aa,Aa,by grind [L2,En,List.length_singleton],Af,hb2,Zh (by rw[Bt];have h:=hac2.out;rw[hq] at h;exact h)⟩
     case measure=>simp[intOf]
  ·have hjn:j=n:=by omega
   have hpe:¬K8 s.data.toList j<s.size:=by
    rw[fE _ HVD.out j (by rw[Hn.out];omega)]
    have h2:s.size=s.data.toList.length:=by rw[Bm];rfl
    omega
   have hnx:=P0 (P:=Tryz.prog) 0 hi hpe
   have HJ:=Zh hjn;clear hjn hi hm hpe
   go_wp2
   go_ret2
   refine⟨_,by unfold iO;rw[HV.out];rfl,?_,by rw[HBn.out];exact hbB.trans (hbr.mono (by rw[←HI.out,←HBn.out];exact hbB.size))⟩
   have e:Sh k s.data.toList=acc:=by
    unfold Sh chS;rw[HV.out,Aj rfl,HWd.out,Ai Aa,hacc.out,HJ.out,B3 (by rw[Hn.out];exact At _)]
   rw[e]
   exact(Ud hown).mono fun b _ h=>by have:=hbB.size;have:=HI.out;omega
theorem sF (k:Int) (s:ByteArray) (b:s.size≤16777216) (w:World) (a:Lib.Utf8Tabs 6 7 w):
 Calls Tryz.prog 385 #[.agg #[.int .i64 k,.string s]] w (iV k s.data.toList w):=by
 rcases Bool.eq_false_or_eq_true (Ey k s.data.toList) with h|h
 all_goals grind [DG,sE]
end Go.Proofs.YtbedjionhmaafaaGreatDoor
