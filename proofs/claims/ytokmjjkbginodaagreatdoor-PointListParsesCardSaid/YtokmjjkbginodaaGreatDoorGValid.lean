/- GValid: the texts Valid, one behind the other. No condition but what each lemma says. -/
import Derived.Test.YtokmjjkbginodaaGreatDoorGForms
import Derived.Deep.Light
import Derived.Deep.DeepCutAuto
namespace Go.Proofs.YtokmjjkbginodaaGreatDoor
open Go.RowKit
open Go.Lib (validD decodeL)
def Uc (w:World) (k:Int) (g:Nat) (cap:Array Value):Prop:=
 (∀args w,(callFunc g args).run Tryz.prog w= .ok (.enter g args) w)∧∀(x:Nat) w',x<2147483648→Below w.heap.size w w'→
   Calls Tryz.prog g (#[.int .i32 x]++cap) w' fun e w''=>e= .returned (.bool (B5 k x))∧Below w'.heap.size w' w''
theorem Lk {P:Program} {g:Nat} {args:Array Value} {w:World} {v:Value} (h:Calls P g args w fun e w'=>e= .returned v∧w=w'):
 Calls P g args w fun e w'=>e= .returned v∧Below w.heap.size w w':=h.mono fun _ _ ⟨h1,h2⟩=>⟨h1,h2▸Below.refl _ _⟩
theorem DZ (x:Nat):B5 12 x=E7 x:=by unfold B5;simp
theorem EA (x:Nat):B5 28 x=E7 x:=by unfold B5;simp
theorem EB (x:Nat):(decide ((0:Int)≤x)&&decide ((x:Int)≤127))=B5 22 x:=by
 unfold B5;rw[Bool.eq_iff_iff];simp;omega
theorem EC (x:Nat):(decide ((32:Int)≤x)&&decide ((x:Int)≤126))=B5 26 x:=by
 unfold B5;rw[Bool.eq_iff_iff];simp;omega
theorem Ud {n b:Nat} {k:Int} (hk:Ar k<0) (v:Value):¬Ob (A1 n b) (fun _=>true) k v:=by
 rintro⟨e,he,_,h,_⟩
 unfold A1 at he
 simp only[List.mem_cons,List.not_mem_nil,or_false] at he
 rcases he with rfl|rfl|rfl|rfl|rfl|rfl|rfl<;>(simp only[] at h;subst h;revert hk;decide)
theorem Ue {n b:Nat} {k:Int} (hk:¬Ar k<0):
 ∃g cap,Ob (A1 n b) (fun _=>true) k (.agg #[.func (.func g) #[] cap,.int .i64 (Ar k)])∧∀w m,Es w m n b→Uc w k g cap:=by
 rcases Dl k hk with rfl|rfl|rfl|rfl|rfl|rfl|rfl
 ·refine⟨_,_,⟨_,by unfold A1;exact .head _,rfl,rfl,rfl⟩,fun w m ⟨_,h1,h2,h3,h4,h5⟩=>⟨enters_of Tryz.func192 (by kernel_rfl) rfl,fun x w' hx hb=> ?_⟩⟩
  rw[DZ,←Fq]
  exact(Tryz.utf8_ValidRune x w').mono fun e w'' ⟨h6,h7⟩=>⟨h6,h7▸Below.refl _ _⟩
 ·refine⟨_,_,⟨_,by unfold A1;exact .tail _ (.head _),rfl,rfl,rfl⟩,fun w m ⟨_,h1,h2,h3,h4,h5⟩=>⟨enters_of Tryz.func188 (by kernel_rfl) rfl,fun x w' hx hb=> ?_⟩⟩
  exact rJ x hx w'
 ·refine⟨_,_,⟨_,by unfold A1;exact .tail _ (.tail _ (.head _)),rfl,rfl,rfl⟩,fun w m ⟨_,h1,h2,h3,h4,h5⟩=>⟨enters_of Tryz.func191 (by kernel_rfl) rfl,fun x w' hx hb=> ?_⟩⟩
  exact Lk (rG _ _ _ x hx w' (B6 h1 hb) (B6 h2 hb) (B6 h3 hb))
 ·refine⟨_,_,⟨_,by unfold A1;exact .tail _ (.tail _ (.tail _ (.head _))),rfl,rfl,rfl⟩,fun w m ⟨_,h1,h2,h3,h4,h5⟩=>⟨enters_of Tryz.func217 (by kernel_rfl) rfl,fun x w' hx hb=> ?_⟩⟩
  rw[←EB]
  exact Lk (Fa _ _ 0 127 x w' (B6 h4 hb) (B6 h5 hb))
 ·refine⟨_,_,⟨_,by unfold A1;exact .tail _ (.tail _ (.tail _ (.tail _ (.head _)))),rfl,rfl,rfl⟩,fun w m ⟨_,h1,h2,h3,h4,h5⟩=>⟨enters_of Tryz.func217 (by kernel_rfl) rfl,fun x w' hx hb=> ?_⟩⟩
  rw[←EC]
  exact Lk (Fa _ _ 32 126 x w' (B6 h2 hb) (B6 h3 hb))
 ·refine⟨_,_,⟨_,by unfold A1;exact .tail _ (.tail _ (.tail _ (.tail _ (.tail _ (.head _))))),rfl,rfl,rfl⟩,fun w m ⟨_,h1,h2,h3,h4,h5⟩=>⟨enters_of Tryz.func192 (by kernel_rfl) rfl,fun x w' hx hb=> ?_⟩⟩
  rw[EA,←Fq]
  exact(Tryz.utf8_ValidRune x w').mono fun e w'' ⟨h6,h7⟩=>⟨h6,h7▸Below.refl _ _⟩
 ·refine⟨_,_,⟨_,by unfold A1;exact .tail _ (.tail _ (.tail _ (.tail _ (.tail _ (.tail _ (.head _)))))),rfl,rfl,rfl⟩,fun w m ⟨_,h1,h2,h3,h4,h5⟩=>⟨enters_of Tryz.func193 (by kernel_rfl) rfl,fun x w' hx hb=> ?_⟩⟩
  exact Lk (rF x hx w')
def KI (k:Int) (s:ByteArray) (ok:Bool) (B:Nat) (W0:World) (d:Nat→Bool) (a:Act) (w:World):Prop:=
 ∃(m n b:Nat) (fv:Value) (wd:Int) (c:Nat) (u0 u1:Value) (x3 x4 x7 x8 x9 x10 x11 x12 x13:Value),a={tmps:=#[(.agg #[.int .i64 k,.string s]),(.pointer (some ⟨B,0,none⟩)),(.bool false),x3,x4,undef,undef,x7,x8,x9,x10,x11,x12,x13,undef,undef,undef,undef,undef,undef,undef,undef,undef,undef,undef,undef,undef,undef,undef,undef,undef,undef,undef],defers:=[]}∧Below W0.heap.size W0 w∧
  (d 0=true→x8= .map (some m)∧Es w m n b∧(W0.heap.size≤m∧W0.heap.size≤n∧W0.heap.size≤b))∧
  (d 1=true→x9= .pointer (some ⟨B,0,none⟩))∧
  (d 2=true→x10= .int .i64 k)∧
  (d 3=true→x11= .tuple #[(.agg #[fv,.int .i64 wd]),.bool ok]∧(fv= .nilFunc∨∃g cap,fv= .func (.func g) #[] cap)∧(ok=true→∃g cap,fv= .func (.func g) #[] cap∧wd=Ar k∧∀w m,Es w m n b→Uc w k g cap))∧
  (d 4=true→x7= .tuple #[(.agg #[fv,.int .i64 wd]),.bool ok])∧
  (d 5=true→x12=(.agg #[fv,.int .i64 wd]))∧
  (d 6=true→x13= .bool ok)∧
  (d 7=true→x3= .pointer (some ⟨c,0,none⟩)∧W0.heap.size≤c∧w.cell? ⟨c,0,none⟩=some u0∧w.cell? ⟨c,1,none⟩=some u1∧w.frozen? ⟨c,0,none⟩=false∧w.frozen? ⟨c,1,none⟩=false)∧
  (d 8=true→u0=fv∧u1= .int .i64 wd)∧
  (d 9=true→x4= .bool ok)∧
  (d 0=true→d 7=true→m≠c∧n≠c∧n+1≠c∧n+1+1≠c∧b≠c∧b+1≠c)∧
  (d 3=true→d 0=true)∧
  (d 4=true→d 3=true)∧
  (d 5=true→d 4=true)∧
  (d 6=true→d 4=true)∧
  (d 8=true→d 7=true∧d 5=true)∧
  (d 9=true→d 6=true)
theorem Es.below {w w':World} {m n b:Nat} (h:Es w m n b) (hb:Below w.heap.size w w'):Es w' m n b:=by
 obtain⟨h0,h1,h2,h3,h4,h5⟩:=h
 exact⟨h0.keep (hb.block m h0.lt),B6 h1 hb,B6 h2 hb,B6 h3 hb,B6 h4 hb,B6 h5 hb⟩
theorem Es.lts {w:World} {m n b:Nat} (h:Es w m n b):m<w.heap.size∧n+1+1<w.heap.size∧b+1<w.heap.size:=by
 obtain⟨h0,h1,h2,h3,h4,h5⟩:=h
 exact⟨h0.lt,Co h1,Co h5⟩
theorem Es.store {w:World} {m n b c:Nat} (h:Es w m n b) (o:Nat) (u:Value) (hc:m≠c∧n≠c∧n+1≠c∧n+1+1≠c∧b≠c∧b+1≠c):Es (w.setCell ⟨c,o,none⟩ u) m n b:=by
 obtain⟨h0,h1,h2,h3,h4,h5⟩:=h
 obtain⟨e0,e1,e2,e3,e4,e5⟩:=hc
 have k:∀j,j≠c→(w.setCell ⟨c,o,none⟩ u).heap[j]?=w.heap[j]?:=fun j hj=>Below.heap_setCell w ⟨c,o,none⟩ u j hj
 exact⟨h0.keep (k m e0),Cj h1 (k _ e3),Cj h2 (k _ e1),Cj h3 (k _ e2),Cj h4 (k _ e4),Cj h5 (k _ e5)⟩
theorem iT {w:World} {c:Nat} {u0 u1:Value} (h0:w.cell? ⟨c,0,none⟩=some u0) (_:w.cell? ⟨c,1,none⟩=some u1) (v0 v1:Value):((w.setCell ⟨c,0,none⟩ v0).setCell ⟨c,1,none⟩ v1).cell? ⟨c,0,none⟩=some v0:=by
 rw[World.cell?_setCell_other _ _ _ _ (by simp)];exact World.cell?_setCell_same' _ _ _ (by simp[h0])
theorem iU {w:World} {c:Nat} {u0 u1:Value} (_:w.cell? ⟨c,0,none⟩=some u0) (h1:w.cell? ⟨c,1,none⟩=some u1) (v0 v1:Value):((w.setCell ⟨c,0,none⟩ v0).setCell ⟨c,1,none⟩ v1).cell? ⟨c,1,none⟩=some v1:=by
 refine World.cell?_setCell_same' _ _ _ ?_
 rw[World.cell?_setCell_other _ _ _ _ (by simp)];simp[h1]
theorem vZ (s:ByteArray) (hs:s.size≤16777216) (w:World) (hT:Lib.Utf8Tabs 0 1 w):
 Calls Tryz.prog 187 #[.string s] w fun e w'=>e= .returned (.bool (validD s.data.toList))∧Below w.heap.size w w':=
 Go.Proofs.Any.utf8_ValidString Tryz.laysValid s w (by omega) hT
theorem cT (w:World):(zeroValue 222).run Tryz.prog w= .ok (.agg #[.nilFunc,.int .i64 0]) w:=by kernel_rfl
theorem Kp {w:World} {m n b:Nat} (h:Es w m n b) (k:Int) (ok:Bool) (hk:ok=true↔0≤Ar k):
 ∃(fv:Value) (wd:Int),(Instr.lookup 223 (.map (some m)) (.int .i64 k) true).run Tryz.prog w= .ok (.tuple #[.agg #[fv,.int .i64 wd],.bool ok]) w∧(fv= .nilFunc∨∃g cap,fv= .func (.func g) #[] cap)∧
  (ok=true→∃g cap,fv= .func (.func g) #[] cap∧wd=Ar k∧∀w m,Es w m n b→Uc w k g cap):=by
 cases ok with
 |true=>
  obtain⟨g,cap,h1,h2⟩:=Ue (n:=n) (b:=b) (Int.not_lt.2 (hk.1 rfl))
  exact⟨_,_,h.1.look Tryz.underlying223 Tryz.underlying3 h1,.inr ⟨g,cap,rfl⟩,fun _=>⟨g,cap,rfl,rfl,h2⟩⟩
 |false=>
  have hw:Ar k<0:=by
   by_cases hh:Ar k<0
   ·exact hh
   ·exact absurd (hk.2 (Int.not_lt.1 hh)) (by simp)
  exact⟨_,_,h.1.miss Tryz.underlying223 Tryz.underlying3 cT (Ud hw),.inl rfl,fun h=>by cases h⟩
set_option maxRecDepth 100000 in
set_option maxHeartbeats 4000000 in
theorem Kq (k:Int) (s:ByteArray) (hs:s.size≤16777216) (w:World) (hT:Lib.Utf8Tabs 0 1 w):
 Calls Tryz.prog 148 #[.agg #[.int .i64 k,.string s]] w fun e w'=>e= .returned (.bool (Aq k s.data.toList))∧Below w.heap.size w w':=by
 obtain⟨ok,hkind⟩:∃ok:Bool,ok=true↔0≤Ar k:=⟨decide (0≤Ar k),by simp⟩
 obtain⟨A,hA⟩:∃A,Aq k s.data.toList=A:=⟨_,rfl⟩
 rw[hA]
 have HA:=Zh hA;clear hA
 have HK:=Zh hkind;clear hkind
 have HS:=Zh hs
 go_enter Tryz.func148,Tryz.ntmps148
 go_wp2
 obtain⟨B,hn⟩:∃B,w.heap.size=B:=⟨_,rfl⟩
 obtain⟨W0,hW0⟩:∃W0,w.alloc (.cells #[.int .i64 k,.string s] 53)=W0:=⟨_,rfl⟩
 rw[hW0]
 have hkc:W0.cell? ⟨B,0,none⟩=some (.int .i64 k):=by rw[←hW0,←hn];simp
 have hsc:W0.cell? ⟨B,1,none⟩=some (.string s):=by rw[←hW0,←hn];simp
 have hB:B<W0.heap.size:=by rw[←hW0,←hn];simp
 have hbw:Below B w W0:=by rw[←hW0,←hn];exact(Below.refl _ _).alloc (Nat.le_refl _) _
 have HN:=Zh hn
 rw[hn]
 clear hn hW0
 refine Js (by kernel_rfl) (by kernel_rfl) (KI k s ok B W0) ?first ?steps ?last
 case first=>
  refine⟨0,0,0,undef,0,0,undef,undef,_,_,_,_,_,_,_,_,_,rfl,(Below.refl _ _).drew,(fun h=>by cases h),(fun h=>by cases h),(fun h=>by cases h),(fun h=>by cases h),(fun h=>by cases h),(fun h=>by cases h),(fun h=>by cases h),(fun h=>by cases h),(fun h=>by cases h),(fun h=>by cases h),(fun h=>by cases h),(fun h=>by cases h),(fun h=>by cases h),(fun h=>by cases h),(fun h=>by cases h),(fun h=>by cases h),(fun h=>by cases h)⟩
 case last=>
  rintro a w2 ⟨m,n,b,fv,wd,c,u0,u1,x3,x4,x7,x8,x9,x10,x11,x12,x13,rfl,hb,f0,f1,f2,f3,f4,f5,f6,f7,f8,f9,g1,c3,c4,c5,c6,c8,c9⟩
  obtain⟨e3,hcB,hc0,-,-,-⟩:=f7 rfl
  obtain⟨e40,-⟩:=f8 rfl
  have e4:=f9 rfl
  obtain⟨-,-,hok⟩:=f3 rfl
  obtain⟨-,hF,-⟩:=f0 rfl
  subst e3 e4 e40
  have hs2:w2.cell? ⟨B,1,none⟩=some (.string s):=(hb.cell hB).trans hsc
  have hbB:Below B w w2:=hbw.trans (hb.mono (Nat.le_of_lt hB))
  have HBW:Hid (B≤w2.heap.size):=Zh (by have e:=hbB.size;rw[HN.out] at e;exact e)
  have hT2:=Utf8Tabs_below hT (by rw[HN.out];exact hbB)
  clear f0 f1 f2 f3 f4 f5 f6 f7 f8 f9 g1 c3 c4 c5 c6 c8 c9 hkc hsc hbw hb hcB hT
  have HT:=Zh hT2;clear hT2
  have HF:=Zh hF;clear hF
  have HO:=Zh hok;clear hok
  cases ok with
  |false=>
   have hw:Ar k<0:=by
    have:=HK.out;simp at this;omega
   go_wp2
   go_ret
   exact⟨by rw[←HA.out,Md hw];rfl,by rw[HN.out];exact hbB⟩
  |true=>
   have hw:decide (Ar k<0)=false:=by rw[decide_eq_false_iff_not];have:=HK.out.1 rfl;omega
   obtain⟨g,cap,rfl,-,hch⟩:=HO.out rfl
   have hC:=hch _ _ HF.out
   clear hch HO
   have HC:=Zh hC;clear hC
   have HW:=Zh hw;clear hw
   rcases Bool.eq_false_or_eq_true (validD s.data.toList) with hv|hv
   rotate_left
   ·have HV:=Zh hv;clear hv
    go_wp2_with (go_at_call 187;refine(vZ s HS.out _ HT.out).mono ?_;rintro e w3 ⟨rfl,hb3⟩;rw[HV.out])
    go_ret
    exact⟨by rw[←HA.out,T8 HV.out];rfl,by rw[HN.out];exact hbB.trans (hb3.mono HBW.out)⟩
   ·have HV:=Zh hv;clear hv
    go_wp2_with (go_at_call 187;refine(vZ s HS.out _ HT.out).mono ?_;rintro e w3 ⟨rfl,hb3⟩;rw[HV.out];have hs3:=B6 hs2 hb3;have hc3:=B6 hc0 hb3)
    obtain⟨n,hn⟩:∃n,(rns s.data.toList).length=n:=⟨_,rfl⟩
    have Hn:=Zh hn;clear hn
    have hb4:Below w3.heap.size w3 (w3.alloc (.stringIter s 0)):=(Below.refl _ _).alloc (Nat.le_refl _) _
    have HB3:=Zh hb3;clear hb3
    go_loopw [6] (fun _ wr=>∃j:Nat,j≤n∧wr.heap[w3.heap.size]?=some (.stringIter s (F8 s.data.toList j))∧Below w3.heap.size w3 wr∧Hid (∀m,m<j→B5 k ((rns s.data.toList).getD m 0)=true)) (fun _ wr=>s.size-wr.iterPos w3.heap.size)
    case atStart=>exact⟨0,by omega,by rw[Ua];exact World.iter_heap _ _ _,hb4,fun m hm=>absurd hm (Nat.not_lt_zero _)⟩
    case round=>
     obtain⟨j,hj,hi,hbr,hall⟩:=hrel
     have hm:wr.iterPos w3.heap.size=F8 s.data.toList j:=by unfold World.iterPos;rw[hi]
     have hcr:=B6 hc3 hbr
     by_cases hlt:j<n
     ·obtain⟨hp,hd,hstep⟩:=Ub s HV.out j (by rw[Hn.out];exact hlt)
      obtain⟨w5,hnx,hi2,hk,h1,h2,h3,h4⟩:=Mg (P:=Tryz.prog) 0 hi hp
      rw[hd] at hnx hi2
      obtain⟨x,hx⟩:∃x,(rns s.data.toList).getD j 0=x:=⟨_,rfl⟩
      rw[hx] at hnx hi2 hstep
      simp only[] at hnx hi2
      rw[←hstep] at hi2
      obtain⟨p,hpp⟩:∃p,F8 s.data.toList j=p:=⟨_,rfl⟩
      rw[hpp] at hnx hp hm hstep
      have hb5:=Ek hbr (Nat.le_refl _) hk h1 h2 h3 h4
      have hc5:=B6 hc3 hb5
      have hm2:w5.iterPos w3.heap.size=F8 s.data.toList (j+1):=by unfold World.iterPos;rw[hi2]
      have hxs:x<2147483648:=by
       have h:=Km _ HV.out x (by rw[←hx,List.getD_eq_getElem?_getD,Am (by rw[Hn.out];exact hlt)];exact List.getElem_mem _)
       rw[C3] at h;omega
      have hpos:1≤(enc x).length:=(Gf x).1
      have HX:=Zh hx;have HI:=Zh hi2;have HM:=Zh hm;have HM2:=Zh hm2;have HP:=Zh hp;have HST:=Zh hstep;have HXS:=Zh hxs;have HPO:=Zh hpos
      clear hx hi hi2 hm hm2 hp hstep hxs hpos hd hpp hk h1 h2 h3 h4
      have he:=HC.out.1
      have HC2:=Zh HC.out.2
      go_wp2
      refine(HC2.out x _ HXS.out (HB3.out.trans (hb5.mono HB3.out.size))).mono ?_
      rintro e w6 ⟨rfl,hb6⟩
      rcases Bool.eq_false_or_eq_true (B5 k x) with hv|hv
      ·rw[hv]
       have HVX:=Zh hv;clear hv
       have hb7:=hb5.trans (hb6.mono hb5.size)
       have hi6:=(hb6.block _ (by have:=(Array.getElem?_eq_some_iff.1 HI.out).1;exact this)).trans HI.out
       have hm6:w6.iterPos w3.heap.size=F8 s.data.toList (j+1):=by unfold World.iterPos;rw[hi6]
       have HI6:=Zh hi6;have HM6:=Zh hm6;clear hi6 hm6
       go_wp2
       go_roundw
       case rel=>exact⟨j+1,by omega,HI6.out,hb7,fun m hm=>by rcases Nat.lt_or_ge m j with h|h;exact hall.out m h;rw[show m=j from by omega,HX.out];exact HVX.out⟩
       case measure=>have a1:=HM.out;have a2:=HM6.out;have a3:=HST.out;have a4:=HP.out;have a5:=HPO.out;rw[a1,a2,a3];omega
      ·rw[hv]
       have HVX:=Zh hv;clear hv
       go_wp2
       go_ret
       exact⟨by rw[←HA.out,Si (m:=j) (by have:=Hn.out;omega) (by rw[HX.out];exact HVX.out)];rfl,by rw[HN.out];exact hbB.trans ((HB3.out.trans ((hb5.trans (hb6.mono hb5.size)).mono HB3.out.size)).mono HBW.out)⟩
     ·have hnx:=J5 (P:=Tryz.prog) 0 hi (by rw[X3 _ HV.out j (by rw[Hn.out];omega),Array.length_toList];exact Nat.lt_irrefl _)
      have HI:=Zh hi;have HM:=Zh hm;clear hi hm
      go_wp2
      go_ret
      exact⟨by rw[←HA.out,T9 HV.out (by simpa using HW.out) fun m hm=>hall.out m (by have:=Hn.out;omega)];rfl,by rw[HN.out];exact hbB.trans ((HB3.out.trans (hbr.mono HB3.out.size)).mono HBW.out)⟩
 case steps=>
  refine⟨?_,?_,?_,?_,?_,?_,?_,?_,?_,?_,trivial⟩
  ·rintro d a w hd hdep ⟨m,n,b,fv,wd,c,u0,u1,x3,x4,x7,x8,x9,x10,x11,x12,x13,rfl,hb,f0,f1,f2,f3,f4,f5,f6,f7,f8,f9,g1,c3,c4,c5,c6,c8,c9⟩
   have z3:d 3=false:=by cases h:d 3 with|false=>rfl|true=>exact absurd (c3 h) (by simp[hd])
   have z4:d 4=false:=by cases h:d 4 with|false=>rfl|true=>exact absurd (c4 h) (by simp[z3])
   have H_f0:=Zh f0;have H_f1:=Zh f1;have H_f2:=Zh f2;have H_f3:=Zh f3;have H_f4:=Zh f4;have H_f5:=Zh f5;have H_f6:=Zh f6;have H_f7:=Zh f7;have H_f8:=Zh f8;have H_f9:=Zh f9;have H_g1:=Zh g1;have H_c3:=Zh c3;have H_c4:=Zh c4;have H_c5:=Zh c5;have H_c6:=Zh c6;have H_c8:=Zh c8;have H_c9:=Zh c9;clear f0 f1 f2 f3 f4 f5 f6 f7 f8 f9 g1 c3 c4 c5 c6 c8 c9
   go_wp2_with (go_at_call 149;refine(Hl _).mono ?_;rintro e w1 ⟨m1,n1,b1,rfl,hF,hl,hbw⟩)
   exact⟨m1,n1,b1,fv,wd,c,u0,u1,_,_,_,_,_,_,_,_,_,rfl,hb.trans (hbw.mono hb.size),fun _=>⟨rfl,hF,Nat.le_trans hb.size hl.1,Nat.le_trans hb.size hl.2.1,Nat.le_trans hb.size hl.2.2⟩,
    H_f1.out,
    H_f2.out,
    fun h=>absurd (by simpa[A3] using h:d 3=true) (by simp[z3]),
    H_f4.out,
    H_f5.out,
    H_f6.out,
    fun h=>by obtain⟨q1,q2,q3,q4,q5,q6⟩:=H_f7.out h;exact⟨q1,q2,B6 q3 hbw,B6 q4 hbw,(hbw.frozen (p:=⟨c,0,none⟩) (Co q3)).trans q5,(hbw.frozen (p:=⟨c,1,none⟩) (Co q4)).trans q6⟩,
    H_f8.out,
    H_f9.out,
    fun _ h=>by obtain⟨q1,q2,q3,q4,q5,q6⟩:=H_f7.out h;have:=Co q3;simp only[] at this;omega,
    fun _=>by simp[A3],
    fun h=>by simp only[A3] at*;split<;>first|rfl|exact H_c4.out h,
    fun h=>by simp only[A3] at*;split<;>first|rfl|exact H_c5.out h,
    fun h=>by simp only[A3] at*;split<;>first|rfl|exact H_c6.out h,
    fun h=>by simpa[A3] using H_c8.out h,
    fun h=>by simp only[A3] at*;split<;>first|rfl|exact H_c9.out h⟩
  ·rintro d a w hd hdep ⟨m,n,b,fv,wd,c,u0,u1,x3,x4,x7,x8,x9,x10,x11,x12,x13,rfl,hb,f0,f1,f2,f3,f4,f5,f6,f7,f8,f9,g1,c3,c4,c5,c6,c8,c9⟩
   have H_f0:=Zh f0;have H_f1:=Zh f1;have H_f2:=Zh f2;have H_f3:=Zh f3;have H_f4:=Zh f4;have H_f5:=Zh f5;have H_f6:=Zh f6;have H_f7:=Zh f7;have H_f8:=Zh f8;have H_f9:=Zh f9;have H_g1:=Zh g1;have H_c3:=Zh c3;have H_c4:=Zh c4;have H_c5:=Zh c5;have H_c6:=Zh c6;have H_c8:=Zh c8;have H_c9:=Zh c9;clear f0 f1 f2 f3 f4 f5 f6 f7 f8 f9 g1 c3 c4 c5 c6 c8 c9
   go_wp2
   exact⟨m,n,b,fv,wd,c,u0,u1,_,_,_,_,_,_,_,_,_,rfl,hb,H_f0.out,
    fun _=>rfl,
    H_f2.out,
    H_f3.out,
    H_f4.out,
    H_f5.out,
    H_f6.out,
    H_f7.out,
    H_f8.out,
    H_f9.out,
    fun h h'=>H_g1.out h (by simpa[A3] using h'),
    fun h=>by simp only[A3] at*;split<;>first|rfl|exact H_c3.out h,
    fun h=>by simp only[A3] at*;split<;>first|rfl|exact H_c4.out h,
    fun h=>by simp only[A3] at*;split<;>first|rfl|exact H_c5.out h,
    fun h=>by simp only[A3] at*;split<;>first|rfl|exact H_c6.out h,
    fun h=>by simpa[A3] using H_c8.out h,
    fun h=>by simp only[A3] at*;split<;>first|rfl|exact H_c9.out h⟩
  ·rintro d a w hd hdep ⟨m,n,b,fv,wd,c,u0,u1,x3,x4,x7,x8,x9,x10,x11,x12,x13,rfl,hb,f0,f1,f2,f3,f4,f5,f6,f7,f8,f9,g1,c3,c4,c5,c6,c8,c9⟩
   have p1:d 1=true:=hdep ⟨1,.data⟩ (by simp) rfl
   have g:=f1 p1;subst g
   have hk0:=(hb.cell (p:=⟨B,0,none⟩) hB).trans hkc
   have H_f0:=Zh f0;have H_f1:=Zh f1;have H_f2:=Zh f2;have H_f3:=Zh f3;have H_f4:=Zh f4;have H_f5:=Zh f5;have H_f6:=Zh f6;have H_f7:=Zh f7;have H_f8:=Zh f8;have H_f9:=Zh f9;have H_g1:=Zh g1;have H_c3:=Zh c3;have H_c4:=Zh c4;have H_c5:=Zh c5;have H_c6:=Zh c6;have H_c8:=Zh c8;have H_c9:=Zh c9;clear f0 f1 f2 f3 f4 f5 f6 f7 f8 f9 g1 c3 c4 c5 c6 c8 c9
   go_wp2
   exact⟨m,n,b,fv,wd,c,u0,u1,_,_,_,_,_,_,_,_,_,rfl,hb,H_f0.out,
    fun _=>rfl,
    fun _=>rfl,
    H_f3.out,
    H_f4.out,
    H_f5.out,
    H_f6.out,
    H_f7.out,
    H_f8.out,
    H_f9.out,
    fun h h'=>H_g1.out h (by simpa[A3] using h'),
    fun h=>by simp only[A3] at*;split<;>first|rfl|exact H_c3.out h,
    fun h=>by simp only[A3] at*;split<;>first|rfl|exact H_c4.out h,
    fun h=>by simp only[A3] at*;split<;>first|rfl|exact H_c5.out h,
    fun h=>by simp only[A3] at*;split<;>first|rfl|exact H_c6.out h,
    fun h=>by simpa[A3] using H_c8.out h,
    fun h=>by simp only[A3] at*;split<;>first|rfl|exact H_c9.out h⟩
  ·rintro d a w hd hdep ⟨m,n,b,fv,wd,c,u0,u1,x3,x4,x7,x8,x9,x10,x11,x12,x13,rfl,hb,f0,f1,f2,f3,f4,f5,f6,f7,f8,f9,g1,c3,c4,c5,c6,c8,c9⟩
   have p0:d 0=true:=hdep ⟨0,.data⟩ (by simp) rfl
   have p2:d 2=true:=hdep ⟨2,.data⟩ (by simp) rfl
   obtain⟨q0,hF,hl⟩:=f0 p0;subst q0
   have g:=f2 p2;subst g
   have z5:d 5=false:=by cases h:d 5 with|false=>rfl|true=>exact absurd (c4 (c5 h)) (by simp[hd])
   have z4:d 4=false:=by cases h:d 4 with|false=>rfl|true=>exact absurd (c4 h) (by simp[hd])
   have z6:d 6=false:=by cases h:d 6 with|false=>rfl|true=>exact absurd (c6 h) (by simp[z4])
   have z8:d 8=false:=by cases h:d 8 with|false=>rfl|true=>exact absurd (c8 h).2 (by simp[z5])
   obtain⟨fv1,wd1,hlook,hok⟩:=Kp hF k ok HK.out
   have H_f0:=Zh f0;have H_f1:=Zh f1;have H_f2:=Zh f2;have H_f3:=Zh f3;have H_f4:=Zh f4;have H_f5:=Zh f5;have H_f6:=Zh f6;have H_f7:=Zh f7;have H_f8:=Zh f8;have H_f9:=Zh f9;have H_g1:=Zh g1;have H_c3:=Zh c3;have H_c4:=Zh c4;have H_c5:=Zh c5;have H_c6:=Zh c6;have H_c8:=Zh c8;have H_c9:=Zh c9;clear f0 f1 f2 f3 f4 f5 f6 f7 f8 f9 g1 c3 c4 c5 c6 c8 c9
   go_wp2
   exact⟨m,n,b,fv1,wd1,c,u0,u1,_,_,_,_,_,_,_,_,_,rfl,hb,fun _=>⟨rfl,hF,hl⟩,
    H_f1.out,
    fun _=>rfl,
    fun _=>⟨rfl,hok⟩,
    fun h=>absurd (by simpa[A3] using h:d 4=true) (by simp[z4]),
    fun h=>absurd (by simpa[A3] using h:d 5=true) (by simp[z5]),
    H_f6.out,
    H_f7.out,
    fun h=>absurd (by simpa[A3] using h:d 8=true) (by simp[z8]),
    H_f9.out,
    fun h h'=>H_g1.out h (by simpa[A3] using h'),
    fun _=>by simpa[A3] using p0,
    fun _=>by simp[A3],
    fun h=>by simp only[A3] at*;split<;>first|rfl|exact H_c5.out h,
    fun h=>by simp only[A3] at*;split<;>first|rfl|exact H_c6.out h,
    fun h=>by simpa[A3] using H_c8.out h,
    fun h=>by simp only[A3] at*;split<;>first|rfl|exact H_c9.out h⟩
  ·rintro d a w hd hdep ⟨m,n,b,fv,wd,c,u0,u1,x3,x4,x7,x8,x9,x10,x11,x12,x13,rfl,hb,f0,f1,f2,f3,f4,f5,f6,f7,f8,f9,g1,c3,c4,c5,c6,c8,c9⟩
   have p3:d 3=true:=hdep ⟨3,.data⟩ (by simp) rfl
   obtain⟨g,q⟩:=f3 p3;subst g
   have H_f0:=Zh f0;have H_f1:=Zh f1;have H_f2:=Zh f2;have H_f3:=Zh f3;have H_f4:=Zh f4;have H_f5:=Zh f5;have H_f6:=Zh f6;have H_f7:=Zh f7;have H_f8:=Zh f8;have H_f9:=Zh f9;have H_g1:=Zh g1;have H_c3:=Zh c3;have H_c4:=Zh c4;have H_c5:=Zh c5;have H_c6:=Zh c6;have H_c8:=Zh c8;have H_c9:=Zh c9;clear f0 f1 f2 f3 f4 f5 f6 f7 f8 f9 g1 c3 c4 c5 c6 c8 c9
   go_wp2
   exact⟨m,n,b,fv,wd,c,u0,u1,_,_,_,_,_,_,_,_,_,rfl,hb,H_f0.out,
    H_f1.out,
    H_f2.out,
    fun _=>⟨rfl,q⟩,
    fun _=>rfl,
    H_f5.out,
    H_f6.out,
    H_f7.out,
    H_f8.out,
    H_f9.out,
    fun h h'=>H_g1.out h (by simpa[A3] using h'),
    fun h=>by simp only[A3] at*;split<;>first|rfl|exact H_c3.out h,
    fun _=>by simpa[A3] using p3,
    fun _=>by simp[A3],
    fun _=>by simp[A3],
    fun h=>by simpa[A3] using H_c8.out h,
    fun h=>by simp only[A3] at*;split<;>first|rfl|exact H_c9.out h⟩
  ·rintro d a w hd hdep ⟨m,n,b,fv,wd,c,u0,u1,x3,x4,x7,x8,x9,x10,x11,x12,x13,rfl,hb,f0,f1,f2,f3,f4,f5,f6,f7,f8,f9,g1,c3,c4,c5,c6,c8,c9⟩
   have p4:d 4=true:=hdep ⟨4,.data⟩ (by simp) rfl
   have g:=f4 p4;subst g
   have H_f0:=Zh f0;have H_f1:=Zh f1;have H_f2:=Zh f2;have H_f3:=Zh f3;have H_f4:=Zh f4;have H_f5:=Zh f5;have H_f6:=Zh f6;have H_f7:=Zh f7;have H_f8:=Zh f8;have H_f9:=Zh f9;have H_g1:=Zh g1;have H_c3:=Zh c3;have H_c4:=Zh c4;have H_c5:=Zh c5;have H_c6:=Zh c6;have H_c8:=Zh c8;have H_c9:=Zh c9;clear f0 f1 f2 f3 f4 f5 f6 f7 f8 f9 g1 c3 c4 c5 c6 c8 c9
   go_wp2
   exact⟨m,n,b,fv,wd,c,u0,u1,_,_,_,_,_,_,_,_,_,rfl,hb,H_f0.out,
    H_f1.out,
    H_f2.out,
    H_f3.out,
    fun _=>rfl,
    fun _=>rfl,
    H_f6.out,
    H_f7.out,
    H_f8.out,
    H_f9.out,
    fun h h'=>H_g1.out h (by simpa[A3] using h'),
    fun h=>by simp only[A3] at*;split<;>first|rfl|exact H_c3.out h,
    fun h=>by simp only[A3] at*;split<;>first|rfl|exact H_c4.out h,
    fun _=>by simpa[A3] using p4,
    fun h=>by simp only[A3] at*;split<;>first|rfl|exact H_c6.out h,
    fun h=>⟨by simpa[A3] using(H_c8.out h).1,by simp[A3]⟩,
    fun h=>by simp only[A3] at*;split<;>first|rfl|exact H_c9.out h⟩
  ·rintro d a w hd hdep ⟨m,n,b,fv,wd,c,u0,u1,x3,x4,x7,x8,x9,x10,x11,x12,x13,rfl,hb,f0,f1,f2,f3,f4,f5,f6,f7,f8,f9,g1,c3,c4,c5,c6,c8,c9⟩
   have p4:d 4=true:=hdep ⟨4,.data⟩ (by simp) rfl
   have g:=f4 p4;subst g
   have H_f0:=Zh f0;have H_f1:=Zh f1;have H_f2:=Zh f2;have H_f3:=Zh f3;have H_f4:=Zh f4;have H_f5:=Zh f5;have H_f6:=Zh f6;have H_f7:=Zh f7;have H_f8:=Zh f8;have H_f9:=Zh f9;have H_g1:=Zh g1;have H_c3:=Zh c3;have H_c4:=Zh c4;have H_c5:=Zh c5;have H_c6:=Zh c6;have H_c8:=Zh c8;have H_c9:=Zh c9;clear f0 f1 f2 f3 f4 f5 f6 f7 f8 f9 g1 c3 c4 c5 c6 c8 c9
   go_wp2
   exact⟨m,n,b,fv,wd,c,u0,u1,_,_,_,_,_,_,_,_,_,rfl,hb,H_f0.out,
    H_f1.out,
    H_f2.out,
    H_f3.out,
    fun _=>rfl,
    H_f5.out,
    fun _=>rfl,
    H_f7.out,
    H_f8.out,
    H_f9.out,
    fun h h'=>H_g1.out h (by simpa[A3] using h'),
    fun h=>by simp only[A3] at*;split<;>first|rfl|exact H_c3.out h,
    fun h=>by simp only[A3] at*;split<;>first|rfl|exact H_c4.out h,
    fun h=>by simp only[A3] at*;split<;>first|rfl|exact H_c5.out h,
    fun _=>by simpa[A3] using p4,
    fun h=>by simpa[A3] using H_c8.out h,
    fun _=>by simp[A3]⟩
  ·rintro d a w hd hdep ⟨m,n,b,fv,wd,c,u0,u1,x3,x4,x7,x8,x9,x10,x11,x12,x13,rfl,hb,f0,f1,f2,f3,f4,f5,f6,f7,f8,f9,g1,c3,c4,c5,c6,c8,c9⟩
   have z8:d 8=false:=by cases h:d 8 with|false=>rfl|true=>exact absurd (c8 h).1 (by simp[hd])
   have hba:Below w.heap.size w (w.alloc (.cells #[.nilFunc,.int .i64 0] 222)):=(Below.refl _ _).alloc (Nat.le_refl _) _
   have H_f0:=Zh f0;have H_f1:=Zh f1;have H_f2:=Zh f2;have H_f3:=Zh f3;have H_f4:=Zh f4;have H_f5:=Zh f5;have H_f6:=Zh f6;have H_f7:=Zh f7;have H_f8:=Zh f8;have H_f9:=Zh f9;have H_g1:=Zh g1;have H_c3:=Zh c3;have H_c4:=Zh c4;have H_c5:=Zh c5;have H_c6:=Zh c6;have H_c8:=Zh c8;have H_c9:=Zh c9;clear f0 f1 f2 f3 f4 f5 f6 f7 f8 f9 g1 c3 c4 c5 c6 c8 c9
   go_wp2
   exact⟨m,n,b,fv,wd,w.heap.size,.nilFunc,(.int .i64 0),_,_,_,_,_,_,_,_,_,rfl,hb.alloc hb.size _,fun h=>by obtain⟨q0,hF,hl⟩:=H_f0.out h;exact⟨q0,hF.below hba,hl⟩,
    H_f1.out,
    H_f2.out,
    H_f3.out,
    H_f4.out,
    H_f5.out,
    H_f6.out,
    fun _=>⟨rfl,hb.size,by simp,by simp,by simp,by simp⟩,
    fun h=>absurd (by simpa[A3] using h:d 8=true) (by simp[z8]),
    H_f9.out,
    fun h _=>by obtain⟨q0,hF,hl⟩:=H_f0.out h;have:=hF.lts;omega,
    fun h=>by simp only[A3] at*;split<;>first|rfl|exact H_c3.out h,
    fun h=>by simp only[A3] at*;split<;>first|rfl|exact H_c4.out h,
    fun h=>by simp only[A3] at*;split<;>first|rfl|exact H_c5.out h,
    fun h=>by simp only[A3] at*;split<;>first|rfl|exact H_c6.out h,
    fun h=>⟨by simp[A3],by simpa[A3] using(H_c8.out h).2⟩,
    fun h=>by simp only[A3] at*;split<;>first|rfl|exact H_c9.out h⟩
  ·rintro d a w hd hdep ⟨m,n,b,fv,wd,c,u0,u1,x3,x4,x7,x8,x9,x10,x11,x12,x13,rfl,hb,f0,f1,f2,f3,f4,f5,f6,f7,f8,f9,g1,c3,c4,c5,c6,c8,c9⟩
   have p7:d 7=true:=hdep ⟨7,.data⟩ (by simp) rfl
   have p5:d 5=true:=hdep ⟨5,.data⟩ (by simp) rfl
   obtain⟨q1,q2,q3,q4,q5,q6⟩:=f7 p7;subst q1
   have g:=f5 p5;subst g
   obtain⟨-,hsh,-⟩:=f3 (c4 (c5 p5))
   rcases hsh with rfl|⟨gg,cc,rfl⟩
   all_goals
    have H_f0:=Zh f0;have H_f1:=Zh f1;have H_f2:=Zh f2;have H_f3:=Zh f3;have H_f4:=Zh f4;have H_f5:=Zh f5;have H_f6:=Zh f6;have H_f7:=Zh f7;have H_f8:=Zh f8;have H_f9:=Zh f9;have H_g1:=Zh g1;have H_c3:=Zh c3;have H_c4:=Zh c4;have H_c5:=Zh c5;have H_c6:=Zh c6;have H_c8:=Zh c8;have H_c9:=Zh c9;clear f0 f1 f2 f3 f4 f5 f6 f7 f8 f9 g1 c3 c4 c5 c6 c8 c9
    go_wp2
    exact⟨m,n,b,_,wd,c,_,_,_,_,_,_,_,_,_,_,_,rfl,(hb.setCell q2 _).setCell q2 _,fun h=>by obtain⟨q0,hF,hl⟩:=H_f0.out h;have hne:=H_g1.out h p7;exact⟨q0,(hF.store _ _ hne).store _ _ hne,hl⟩,
     H_f1.out,
     H_f2.out,
     fun h=>by have g:=H_f3.out h;exact⟨g.1,by first|exact g.2.1|exact .inl rfl|exact .inr ⟨_,_,rfl⟩,g.2.2⟩,
     H_f4.out,
     fun _=>rfl,
     H_f6.out,
     fun _=>⟨rfl,q2,iT q3 q4 _ _,iU q3 q4 _ _,(World.frozen?_setCell ..).trans ((World.frozen?_setCell ..).trans q5),(World.frozen?_setCell ..).trans ((World.frozen?_setCell ..).trans q6)⟩,
     fun _=>⟨rfl,rfl⟩,
     H_f9.out,
     fun h h'=>H_g1.out h (by simpa[A3] using h'),
     fun h=>by simp only[A3] at*;split<;>first|rfl|exact H_c3.out h,
     fun h=>by simp only[A3] at*;split<;>first|rfl|exact H_c4.out h,
     fun h=>by simp only[A3] at*;split<;>first|rfl|exact H_c5.out h,
     fun h=>by simp only[A3] at*;split<;>first|rfl|exact H_c6.out h,
     fun _=>⟨by simpa[A3] using p7,by simpa[A3] using p5⟩,
     fun h=>by simp only[A3] at*;split<;>first|rfl|exact H_c9.out h⟩
  ·rintro d a w hd hdep ⟨m,n,b,fv,wd,c,u0,u1,x3,x4,x7,x8,x9,x10,x11,x12,x13,rfl,hb,f0,f1,f2,f3,f4,f5,f6,f7,f8,f9,g1,c3,c4,c5,c6,c8,c9⟩
   have p6:d 6=true:=hdep ⟨6,.data⟩ (by simp) rfl
   have g:=f6 p6;subst g
   have H_f0:=Zh f0;have H_f1:=Zh f1;have H_f2:=Zh f2;have H_f3:=Zh f3;have H_f4:=Zh f4;have H_f5:=Zh f5;have H_f6:=Zh f6;have H_f7:=Zh f7;have H_f8:=Zh f8;have H_f9:=Zh f9;have H_g1:=Zh g1;have H_c3:=Zh c3;have H_c4:=Zh c4;have H_c5:=Zh c5;have H_c6:=Zh c6;have H_c8:=Zh c8;have H_c9:=Zh c9;clear f0 f1 f2 f3 f4 f5 f6 f7 f8 f9 g1 c3 c4 c5 c6 c8 c9
   go_wp2
   exact⟨m,n,b,fv,wd,c,u0,u1,_,_,_,_,_,_,_,_,_,rfl,hb,H_f0.out,
    H_f1.out,
    H_f2.out,
    H_f3.out,
    H_f4.out,
    H_f5.out,
    fun _=>rfl,
    H_f7.out,
    H_f8.out,
    fun _=>rfl,
    fun h h'=>H_g1.out h (by simpa[A3] using h'),
    fun h=>by simp only[A3] at*;split<;>first|rfl|exact H_c3.out h,
    fun h=>by simp only[A3] at*;split<;>first|rfl|exact H_c4.out h,
    fun h=>by simp only[A3] at*;split<;>first|rfl|exact H_c5.out h,
    fun h=>by simp only[A3] at*;split<;>first|rfl|exact H_c6.out h,
    fun h=>by simpa[A3] using H_c8.out h,
    fun _=>by simpa[A3] using p6⟩
end Go.Proofs.YtokmjjkbginodaaGreatDoor
