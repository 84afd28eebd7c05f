/- GValid: the texts Valid, one behind the other. No condition but what each lemma says. -/
import Derived.Test.YtbedjionhmaafaaGreatDoorGForms
import Derived.Deep.Light
import Derived.Deep.DeepCutAuto
set_option linter.all false
namespace Go.Proofs.YtbedjionhmaafaaGreatDoor
open Go.RowKit
open Go.Lib (validD decodeL)
variable {w:World} {n b m c:Nat}
def iT (w:World) (k:Int) (g:Nat) (cap:Array Value):Prop:=
 (∀args w,(callFunc g args).run Tryz.prog w= .ok (.enter g args) w)∧∀(x:Nat) w',x<2147483648→Below w.heap.size w w'→
   Calls Tryz.prog g (#[.int .i32 x]++cap) w' fun e w''=>e= .returned (.bool (Hz k x))∧Below w'.heap.size w' w''
theorem Q2 {P:Program} {g:Nat} {args:Array Value} {v:Value} (h:Calls P g args w fun e w'=>e= .returned v∧w=w'):
 Calls P g args w fun e w'=>e= .returned v∧Below w.heap.size w w':=h.mono fun _ _ ⟨a,d⟩=>⟨a,d▸Bq _ _⟩
theorem TQ (x:Nat):Hz 12 x=Ly x:=by unfold Hz;simp
theorem TS (x:Nat):Hz 28 x=Ly x:=by unfold Hz;simp
theorem TT (x:Nat):(decide ((0:Int)≤x)&&decide ((x:Int)≤127))=Hz 22 x:=by
 unfold Hz;rw[Bz];simp;omega
theorem TU (x:Nat):(decide ((32:Int)≤x)&&decide ((x:Int)≤126))=Hz 26 x:=by
 unfold Hz;rw[Bz];simp;omega
theorem Z7 {k:Int} (d:E6 k<0) (v:Value):¬Ry (Fg n b) (fun _=>true) k v:=by
 rintro⟨e,a,_,h,_⟩
 unfold Fg at a
 simp only[Bj,Cb,or_false] at a
 rcases a with rfl|rfl|rfl|rfl|rfl|rfl|rfl<;>(simp only[] at h;subst h;revert d;decide)
theorem Z8 {k:Int} (s:¬E6 k<0):
 ∃g o,Ry (Fg n b) (fun _=>true) k (.agg #[.func (.func g) #[] o,.int .i64 (E6 k)])∧∀w m,Jf w m n b→iT w k g o:=by
 rcases Nf k s with rfl|rfl|rfl|rfl|rfl|rfl|rfl
 ·refine⟨_,_,⟨_,by unfold Fg;exact .head _,rfl,rfl,rfl⟩,fun w m ⟨_,i,h,f,j,l⟩=>⟨enters_of Tryz.func423 Ac rfl,fun x w' d a=> ?_⟩⟩
  rw[TQ,←Kf]
  exact(Tryz.utf8_ValidRune x w').mono fun e p ⟨q,r⟩=>⟨q,r▸Bq _ _⟩
 ·refine⟨_,_,⟨_,by unfold Fg;exact .tail _ (.head _),rfl,rfl,rfl⟩,fun w m ⟨_,i,h,f,j,l⟩=>⟨enters_of Tryz.func419 Ac rfl,fun x w' d a=> ?_⟩⟩
  exact CZ x d w'
 ·refine⟨_,_,⟨_,by unfold Fg;exact .tail _ (.tail _ (.head _)),rfl,rfl,rfl⟩,fun w m ⟨_,i,h,f,j,l⟩=>⟨enters_of Tryz.func422 Ac rfl,fun x w' d a=> ?_⟩⟩
  exact Q2 (CW _ _ _ x d w' (Gi i a) (Gi h a) (Gi f a))
 ·refine⟨_,_,⟨_,by unfold Fg;exact .tail _ (.tail _ (.tail _ (.head _))),rfl,rfl,rfl⟩,fun w m ⟨_,i,h,f,j,l⟩=>⟨enters_of Tryz.func431 Ac rfl,fun x w' d a=> ?_⟩⟩
  rw[←TT]
  exact Q2 (Jw _ _ 0 127 x w' (Gi j a) (Gi l a))
 ·refine⟨_,_,⟨_,by unfold Fg;exact .tail _ (.tail _ (.tail _ (.tail _ (.head _)))),rfl,rfl,rfl⟩,fun w m ⟨_,i,h,f,j,l⟩=>⟨enters_of Tryz.func431 Ac rfl,fun x w' d a=> ?_⟩⟩
  rw[←TU]
  exact Q2 (Jw _ _ 32 126 x w' (Gi h a) (Gi f a))
 ·refine⟨_,_,⟨_,by unfold Fg;exact .tail _ (.tail _ (.tail _ (.tail _ (.tail _ (.head _))))),rfl,rfl,rfl⟩,fun w m ⟨_,i,h,f,j,l⟩=>⟨enters_of Tryz.func423 Ac rfl,fun x w' d a=> ?_⟩⟩
  rw[TS,←Kf]
  exact(Tryz.utf8_ValidRune x w').mono fun e p ⟨q,r⟩=>⟨q,r▸Bq _ _⟩
 ·refine⟨_,_,⟨_,by unfold Fg;exact .tail _ (.tail _ (.tail _ (.tail _ (.tail _ (.tail _ (.head _)))))),rfl,rfl,rfl⟩,fun w m ⟨_,i,h,f,j,l⟩=>⟨enters_of Tryz.func424 Ac rfl,fun x w' d a=> ?_⟩⟩
  exact Q2 (CV x d w')
theorem iU {d:Nat→Bool} {o i j:Nat} (h:d i=true→d j=true) (g:Io d o i=d i):Io d o i=true→Io d o j=true:=fun e=>by
 grind [Io]
theorem JD {d:Nat→Bool} {o i j k:Nat} (h:d i=true→d j=true∧d k=true) (g:Io d o i=d i):Io d o i=true→Io d o j=true∧Io d o k=true:=fun e=>⟨iU (fun x=>(h x).1) g e,iU (fun x=>(h x).2) g e⟩
theorem vQ {p:Prop} (h:p:=by first|exact Hid.out (by assumption)|exact fun _=>rfl|exact fun _=>by assumption|exact fun _=>⟨rfl,by assumption⟩|exact iU (Hid.out (by assumption)) rfl|exact JD (Hid.out (by assumption)) rfl|(intro h;exfalso;revert h;simp[Io, *]<;>fail)):p:=h
def ci (k:Int) (s:ByteArray) (ok:Bool) (B:Nat) (W0:World) (d:Nat→Bool) (a:Act) (w:World):Prop:=
 ∃(m n b:Nat) (fv:Value) (wd:Int) (c:Nat) (u0 u1:Value) (x3 x4 x7 x8 x9 x10 x11 x12 x13:Value),a={tmps:=#[(.agg #[.int .i64 k,.string s]),(.pointer (some ⟨B,0,none⟩)),(.bool false),x3,x4,undef,undef,x7,x8,x9,x10,x11,x12,x13,undef,undef,undef,undef,undef,undef,undef,undef,undef,undef,undef,undef,undef,undef,undef,undef,undef,undef,undef],defers:=[]}∧Below W0.heap.size W0 w∧
  (d 0=true→x8= .map (some m)∧Jf w m n b∧(W0.heap.size≤m∧W0.heap.size≤n∧W0.heap.size≤b))∧
  (d 1=true→x9= .pointer (some ⟨B,0,none⟩))∧
  (d 2=true→x10= .int .i64 k)∧
  (d 3=true→x11= .tuple #[(.agg #[fv,.int .i64 wd]),.bool ok]∧(fv= .nilFunc∨∃g cap,fv= .func (.func g) #[] cap)∧(ok=true→∃g cap,fv= .func (.func g) #[] cap∧wd=E6 k∧∀w m,Jf w m n b→iT w k g cap))∧
  (d 4=true→x7= .tuple #[(.agg #[fv,.int .i64 wd]),.bool ok])∧
  (d 5=true→x12=(.agg #[fv,.int .i64 wd]))∧
  (d 6=true→x13= .bool ok)∧
  (d 7=true→x3= .pointer (some ⟨c,0,none⟩)∧W0.heap.size≤c∧w.cell? ⟨c,0,none⟩=some u0∧w.cell? ⟨c,1,none⟩=some u1∧w.frozen? ⟨c,0,none⟩=false∧w.frozen? ⟨c,1,none⟩=false)∧
  (d 8=true→u0=fv∧u1= .int .i64 wd)∧
  (d 9=true→x4= .bool ok)∧
  (d 0=true→d 7=true→m≠c∧n≠c∧n+1≠c∧n+1+1≠c∧b≠c∧b+1≠c)∧
  (d 3=true→d 0=true)∧
  (d 4=true→d 3=true)∧
  (d 5=true→d 4=true)∧
  (d 6=true→d 4=true)∧
  (d 8=true→d 7=true∧d 5=true)∧
  (d 9=true→d 6=true)
theorem Jf.below {w':World} (h:Jf w m n b) (a:Below w.heap.size w w'):Jf w' m n b:=by
 obtain⟨d,e,i,f,g,j⟩:=h
 exact⟨d.keep (a.block m d.lt),Gi e a,Gi i a,Gi f a,Gi g a,Gi j a⟩
theorem Jf.lts (h:Jf w m n b):m<w.heap.size∧n+1+1<w.heap.size∧b+1<w.heap.size:=by
 obtain⟨e,a,f,g,i,d⟩:=h
 exact⟨e.lt,G4 a,G4 d⟩
theorem Jf.store (h:Jf w m n b) (o:Nat) (u:Value) (q:m≠c∧n≠c∧n+1≠c∧n+1+1≠c∧b≠c∧b+1≠c):Jf (w.setCell ⟨c,o,none⟩ u) m n b:=by
 obtain⟨x,a,t,f,g,v⟩:=h
 obtain⟨i,s,p,d,l,r⟩:=q
 have k:∀j,j≠c→(w.setCell ⟨c,o,none⟩ u).heap[j]?=w.heap[j]?:=fun j e=>Below.heap_setCell w ⟨c,o,none⟩ u j e
 exact⟨x.keep (k m i),Mk a (k _ d),Mk t (k _ s),Mk f (k _ p),Mk g (k _ l),Mk v (k _ r)⟩
theorem sA {d e:Value} (f:w.cell? ⟨c,0,none⟩=some d) (_:w.cell? ⟨c,1,none⟩=some e) (a v1:Value):((w.setCell ⟨c,0,none⟩ a).setCell ⟨c,1,none⟩ v1).cell? ⟨c,0,none⟩=some a:=by
 grind [World.cell?_setCell_other,World.cell?_setCell_same']
theorem sB {d e:Value} (_:w.cell? ⟨c,0,none⟩=some d) (a:w.cell? ⟨c,1,none⟩=some e) (f v1:Value):((w.setCell ⟨c,0,none⟩ f).setCell ⟨c,1,none⟩ v1).cell? ⟨c,1,none⟩=some v1:=by
 refine World.cell?_setCell_same' _ _ _ ?_
 rw[World.cell?_setCell_other _ _ _ _ Ab];simp[a]
theorem JE (s:ByteArray) (d:s.size≤16777216) (w:World) (a:Lib.Utf8Tabs 6 7 w):
 Calls Tryz.prog 418 #[.string s] w fun e w'=>e= .returned (.bool (validD s.data.toList))∧Below w.heap.size w w':=
 Go.Proofs.Any.utf8_ValidString Tryz.laysValid s w Aa a
theorem mB (w:World):(zeroValue 595).run Tryz.prog w= .ok (.agg #[.nilFunc,.int .i64 0]) w:=Ac
theorem Tc (h:Jf w m n b) (k:Int) (d:Bool) (j:d=true↔0≤E6 k):
 ∃(e:Value) (f:Int),(Instr.lookup 596 (.map (some m)) (.int .i64 k) true).run Tryz.prog w= .ok (.tuple #[.agg #[e,.int .i64 f],.bool d]) w∧(e= .nilFunc∨∃g a,e= .func (.func g) #[] a)∧
  (d=true→∃g a,e= .func (.func g) #[] a∧f=E6 k∧∀w m,Jf w m n b→iT w k g a):=by
 cases d with
 |true=>
  obtain⟨g,a,i,o⟩:=Z8 (n:=n) (b:=b) (Int.not_lt.2 (j.1 rfl))
  exact⟨_,_,h.1.look Tryz.underlying596 Tryz.underlying3 i,.inr ⟨g,a,rfl⟩,fun _=>⟨g,a,rfl,rfl,o⟩⟩
 |false=>
  have l:E6 k<0:=by
   by_cases p:E6 k<0
   ·exact p
   ·grind
  exact⟨_,_,h.1.miss Tryz.underlying596 Tryz.underlying3 mB (Z7 l),.inl rfl,fun h=>by cases h⟩
set_option maxRecDepth 100000 in
set_option maxHeartbeats 4000000 in
theorem Td (k:Int) (s:ByteArray) (hs:s.size≤16777216) (w:World) (hT:Lib.Utf8Tabs 6 7 w):
 Calls Tryz.prog 408 #[.agg #[.int .i64 k,.string s]] w fun e w'=>e= .returned (.bool (Ey k s.data.toList))∧Below w.heap.size w w':=by
 obtain⟨ok,hkind⟩:∃ok:Bool,ok=true↔0≤E6 k:=⟨decide (0≤E6 k),Ab⟩
 obtain⟨A,hA⟩:∃A,Ey k s.data.toList=A:=⟨_,rfl⟩
 rw[hA]
 have HA:=Zh hA;clear hA
 have HK:=Zh hkind;clear hkind
 have HS:=Zh hs
 go_enter Tryz.func408,Tryz.ntmps408
 go_wp2
 obtain⟨B,hn⟩:∃B,w.heap.size=B:=⟨_,rfl⟩
 obtain⟨W0,hW0⟩:∃W0,w.alloc (.cells #[.int .i64 k,.string s] 433)=W0:=⟨_,rfl⟩
 rw[hW0]
 have hkc:W0.cell? ⟨B,0,none⟩=some (.int .i64 k):=by rw[←hW0,←hn];simp
 have hsc:W0.cell? ⟨B,1,none⟩=some (.string s):=by rw[←hW0,←hn];simp
 have hB:B<W0.heap.size:=by rw[←hW0,←hn];simp
 have hbw:Below B w W0:=by rw[←hW0,←hn];exact(Bq _ _).alloc (At _) _
 have HN:=Zh hn
 rw[hn]
 clear hn hW0
 refine Nd Ac Ac (ci k s ok B W0) ?first ?steps ?last
 case first=>
  refine⟨0,0,0,undef,0,0,undef,undef,_,_,_,_,_,_,_,_,_,rfl,(Bq _ _).drew,(fun h=>by cases h),(fun h=>by cases h),(fun h=>by cases h),(fun h=>by cases h),(fun h=>by cases h),(fun h=>by cases h),(fun h=>by cases h),(fun h=>by cases h),(fun h=>by cases h),(fun h=>by cases h),(fun h=>by cases h),(fun h=>by cases h),(fun h=>by cases h),(fun h=>by cases h),(fun h=>by cases h),(fun h=>by cases h),(fun h=>by cases h)⟩
 case last=>
  rintro a w2 ⟨m,n,b,fv,wd,c,u0,u1,x3,x4,x7,x8,x9,x10,x11,x12,x13,rfl,hb,f0,f1,f2,f3,f4,f5,f6,f7,f8,f9,g1,c3,c4,c5,c6,c8,c9⟩
  obtain⟨e3,hcB,hc0,-,-,-⟩:=f7 rfl
  obtain⟨e40,-⟩:=f8 rfl
  have e4:=f9 rfl
  obtain⟨-,-,hok⟩:=f3 rfl
  obtain⟨-,hF,-⟩:=f0 rfl
  subst e3 e4 e40
  have hs2:w2.cell? ⟨B,1,none⟩=some (.string s):=(hb.cell hB).trans hsc
  have hbB:Below B w w2:=hbw.trans (hb.mono (Nat.le_of_lt hB))
  have HBW:Hid (B≤w2.heap.size):=Zh (by have e:=hbB.size;rw[HN.out] at e;exact e)
  have hT2:=Utf8Tabs_below hT (by rw[HN.out];exact hbB)
  clear f0 f1 f2 f3 f4 f5 f6 f7 f8 f9 g1 c3 c4 c5 c6 c8 c9 hkc hsc hbw hb hcB hT
  have HT:=Zh hT2;clear hT2
  have HF:=Zh hF;clear hF
  have HO:=Zh hok;clear hok
  cases ok with
  |false=>
   have hw:E6 k<0:=by
    have:=HK.out;simp at this;omega
   go_wp2
   go_ret
   exact⟨by rw[←HA.out,Yi hw];rfl,by rw[HN.out];exact hbB⟩
  |true=>
   have hw:decide (E6 k<0)=false:=by rw[Ar];have:=HK.out.1 rfl;omega
   obtain⟨g,cap,rfl,-,hch⟩:=HO.out rfl
   have hC:=hch _ _ HF.out
   clear hch HO
   have HC:=Zh hC;clear hC
   have HW:=Zh hw;clear hw
   rcases Bool.eq_false_or_eq_true (validD s.data.toList) with hv|hv
   rotate_left
   ·have HV:=Zh hv;clear hv
    go_wp2_with (go_at_call 418;refine(JE s HS.out _ HT.out).mono ?_;rintro e w3 ⟨rfl,hb3⟩;rw[HV.out])
    go_ret
    exact⟨by rw[←HA.out,rV HV.out];rfl,by rw[HN.out];exact hbB.trans (hb3.mono HBW.out)⟩
   ·have HV:=Zh hv;clear hv
    go_wp2_with (go_at_call 418;refine(JE s HS.out _ HT.out).mono ?_;rintro e w3 ⟨rfl,hb3⟩;rw[HV.out];have hs3:=Gi hs2 hb3;have hc3:=Gi hc0 hb3)
    obtain⟨n,hn⟩:∃n,(rns s.data.toList).length=n:=⟨_,rfl⟩
    have Hn:=Zh hn;clear hn
    have hb4:Below w3.heap.size w3 (w3.alloc (.stringIter s 0)):=(Bq _ _).alloc (At _) _
    have HB3:=Zh hb3;clear hb3
    go_loopw [6] (fun _ wr=>∃j:Nat,j≤n∧wr.heap[w3.heap.size]?=some (.stringIter s (K8 s.data.toList j))∧Below w3.heap.size w3 wr∧Hid (∀m,m<j→Hz k ((rns s.data.toList).getD m 0)=true)) (fun _ wr=>s.size-wr.iterPos w3.heap.size)
    case atStart=>exact⟨0,Aa,by grind [Z0,World.iter_heap],hb4,fun m hm=>Bg hm (Nat.not_lt_zero _)⟩
    case round=>
     obtain⟨j,hj,hi,hbr,hall⟩:=hrel
     have hm:wr.iterPos w3.heap.size=K8 s.data.toList j:=by unfold World.iterPos;rw[hi]
     have hcr:=Gi hc3 hbr
     by_cases hlt:j<n
     ·obtain⟨hp,hd,hstep⟩:=Z1 s HV.out j (by rw[Hn.out];exact hlt)
      obtain⟨w5,hnx,hi2,hk,h1,h2,h3,h4⟩:=Sg (P:=Tryz.prog) 0 hi hp
      rw[hd] at hnx hi2
      obtain⟨x,hx⟩:∃x,(rns s.data.toList).getD j 0=x:=⟨_,rfl⟩
      rw[hx] at hnx hi2 hstep
      simp only[] at hnx hi2
      rw[←hstep] at hi2
      obtain⟨p,hpp⟩:∃p,K8 s.data.toList j=p:=⟨_,rfl⟩
      rw[hpp] at hnx hp hm hstep
      have hb5:=I6 hbr (At _) hk h1 h2 h3 h4
      have hc5:=Gi hc3 hb5
      have hm2:w5.iterPos w3.heap.size=K8 s.data.toList (j+1):=by unfold World.iterPos;rw[hi2]
      have hxs:x<2147483648:=by
       have h:=Vn _ HV.out x (by rw[←hx,Bo,Ev (by rw[Hn.out];exact hlt)];exact Dc _)
       rw[I0] at h;omega
      have hpos:1≤(enc x).length:=(N4 x).1
      have HX:=Zh hx;have HI:=Zh hi2;have HM:=Zh hm;have HM2:=Zh hm2;have HP:=Zh hp;have HST:=Zh hstep;have HXS:=Zh hxs;have HPO:=Zh hpos
      clear hx hi hi2 hm hm2 hp hstep hxs hpos hd hpp hk h1 h2 h3 h4
      have he:=HC.out.1
      have HC2:=Zh HC.out.2
      go_wp2
      refine(HC2.out x _ HXS.out (HB3.out.trans (hb5.mono HB3.out.size))).mono ?_
      rintro e w6 ⟨rfl,hb6⟩
      rcases Bool.eq_false_or_eq_true (Hz k x) with hv|hv
      ·rw[hv]
       have HVX:=Zh hv;clear hv
       have hb7:=hb5.trans (hb6.mono hb5.size)
       have hi6:=(hb6.block _ (by have:=(Br.1 HI.out).1;exact this)).trans HI.out
       have hm6:w6.iterPos w3.heap.size=K8 s.data.toList (j+1):=by unfold World.iterPos;rw[hi6]
       have HI6:=Zh hi6;have HM6:=Zh hm6;clear hi6 hm6
       go_wp2
       go_roundw
       case rel=>exact⟨j+1,Aa,HI6.out,hb7,fun m hm=>by rcases Nat.lt_or_ge m j with h|h;exact hall.out m h;rw[show m=j from by omega,HX.out];exact HVX.out⟩
       case measure=>have a1:=HM.out;have a2:=HM6.out;have a3:=HST.out;have a4:=HP.out;have a5:=HPO.out;rw[a1,a2,a3];omega
      ·rw[hv]
       have HVX:=Zh hv;clear hv
       go_wp2
       go_ret
       exact⟨by rw[←HA.out,lZ (m:=j) (by have:=Hn.out;omega) (by rw[HX.out];exact HVX.out)];rfl,by rw[HN.out];exact hbB.trans ((HB3.out.trans ((hb5.trans (hb6.mono hb5.size)).mono HB3.out.size)).mono HBW.out)⟩
     ·have hnx:=P0 (P:=Tryz.prog) 0 hi (by rw[fE _ HV.out j (by rw[Hn.out];omega),Bm];exact Nat.lt_irrefl _)
      have HI:=Zh hi;have HM:=Zh hm;clear hi hm
      go_wp2
      go_ret
      exact⟨by rw[←HA.out,rW HV.out (by simpa using HW.out) fun m hm=>hall.out m (by have:=Hn.out;omega)];rfl,by rw[HN.out];exact hbB.trans ((HB3.out.trans (hbr.mono HB3.out.size)).mono HBW.out)⟩
 case steps=>
  refine⟨?_,?_,?_,?_,?_,?_,?_,?_,?_,?_,trivial⟩
  all_goals rintro d a w hd hdep ⟨m,n,b,fv,wd,c,u0,u1,x3,x4,x7,x8,x9,x10,x11,x12,x13,rfl,hb,f0,f1,f2,f3,f4,f5,f6,f7,f8,f9,g1,c3,c4,c5,c6,c8,c9⟩
  all_goals(have H_f0:=Zh f0;have H_f1:=Zh f1;have H_f2:=Zh f2;have H_f3:=Zh f3;have H_f4:=Zh f4;have H_f5:=Zh f5;have H_f6:=Zh f6;have H_f7:=Zh f7;have H_f8:=Zh f8;have H_f9:=Zh f9;have H_g1:=Zh g1;have H_c3:=Zh c3;have H_c4:=Zh c4;have H_c5:=Zh c5;have H_c6:=Zh c6;have H_c8:=Zh c8;have H_c9:=Zh c9;clear f0 f1 f2 f3 f4 f5 f6 f7 f8 f9 g1 c3 c4 c5 c6 c8 c9)
  ·have z3:d 3=false:=by cases h:d 3 with|false=>rfl|true=>exact Bg (H_c3.out h) (by simp[hd])
   have z4:d 4=false:=by cases h:d 4 with|false=>rfl|true=>exact Bg (H_c4.out h) (by simp[z3])
   go_wp2_with (go_at_call 409;refine(Oe _).mono ?_;rintro e w1 ⟨m1,n1,b1,rfl,hF,hl,hbw⟩)
   refine⟨m1,n1,b1,fv,wd,c,u0,u1,_,_,_,_,_,_,_,_,_,rfl,hb.trans (hbw.mono hb.size),?_⟩
   (repeat'(first|exact vQ|refine A1 ?_ ?_|exact fun _=>⟨rfl,hF,Bi hb.size hl.1,Bi hb.size hl.2.1,Bi hb.size hl.2.2⟩|exact fun h=>by obtain⟨q1,q2,q3,q4,q5,q6⟩:=H_f7.out h;exact⟨q1,q2,Gi q3 hbw,Gi q4 hbw,(hbw.frozen (p:=⟨c,0,none⟩) (G4 q3)).trans q5,(hbw.frozen (p:=⟨c,1,none⟩) (G4 q4)).trans q6⟩|exact fun _ h=>by obtain⟨q1,q2,q3,q4,q5,q6⟩:=H_f7.out h;have:=G4 q3;simp only[] at this;omega))
  ·go_wp2
   refine⟨m,n,b,fv,wd,c,u0,u1,_,_,_,_,_,_,_,_,_,rfl,hb,?_⟩
   (repeat'(first|exact vQ|refine A1 ?_ ?_))
  ·have p1:d 1=true:=hdep ⟨1,.data⟩ Ab rfl
   have g:=H_f1.out p1;subst g
   have hk0:=(hb.cell (p:=⟨B,0,none⟩) hB).trans hkc
   go_wp2
   refine⟨m,n,b,fv,wd,c,u0,u1,_,_,_,_,_,_,_,_,_,rfl,hb,?_⟩
   (repeat'(first|exact vQ|refine A1 ?_ ?_))
  ·have p0:d 0=true:=hdep ⟨0,.data⟩ Ab rfl
   have p2:d 2=true:=hdep ⟨2,.data⟩ Ab rfl
   obtain⟨q0,hF,hl⟩:=H_f0.out p0;subst q0
   have g:=H_f2.out p2;subst g
   have z5:d 5=false:=by cases h:d 5 with|false=>rfl|true=>exact Bg (H_c4.out (H_c5.out h)) (by simp[hd])
   have z4:d 4=false:=by cases h:d 4 with|false=>rfl|true=>exact Bg (H_c4.out h) (by simp[hd])
   have z6:d 6=false:=by cases h:d 6 with|false=>rfl|true=>exact Bg (H_c6.out h) (by simp[z4])
   have z8:d 8=false:=by cases h:d 8 with|false=>rfl|true=>exact Bg (H_c8.out h).2 (by simp[z5])
   obtain⟨fv1,wd1,hlook,hok⟩:=Tc hF k ok HK.out
   go_wp2
   refine⟨m,n,b,fv1,wd1,c,u0,u1,_,_,_,_,_,_,_,_,_,rfl,hb,?_⟩
   (repeat'(first|exact vQ|refine A1 ?_ ?_|exact fun _=>⟨rfl,hF,hl⟩|exact fun _=>⟨rfl,hok⟩))
  ·have p3:d 3=true:=hdep ⟨3,.data⟩ Ab rfl
   obtain⟨g,q⟩:=H_f3.out p3;subst g
   go_wp2
   refine⟨m,n,b,fv,wd,c,u0,u1,_,_,_,_,_,_,_,_,_,rfl,hb,?_⟩
   (repeat'(first|exact vQ|refine A1 ?_ ?_))
  ·have p4:d 4=true:=hdep ⟨4,.data⟩ Ab rfl
   have g:=H_f4.out p4;subst g
   go_wp2
   refine⟨m,n,b,fv,wd,c,u0,u1,_,_,_,_,_,_,_,_,_,rfl,hb,?_⟩
   (repeat'(first|exact vQ|refine A1 ?_ ?_|exact fun h=>⟨by simpa[Io] using(H_c8.out h).1,by simp[Io]⟩))
  ·have p4:d 4=true:=hdep ⟨4,.data⟩ Ab rfl
   have g:=H_f4.out p4;subst g
   go_wp2
   refine⟨m,n,b,fv,wd,c,u0,u1,_,_,_,_,_,_,_,_,_,rfl,hb,?_⟩
   (repeat'(first|exact vQ|refine A1 ?_ ?_))
  ·have z8:d 8=false:=by cases h:d 8 with|false=>rfl|true=>exact Bg (H_c8.out h).1 (by simp[hd])
   have hba:Below w.heap.size w (w.alloc (.cells #[.nilFunc,.int .i64 0] 595)):=(Bq _ _).alloc (At _) _
   go_wp2
   refine⟨m,n,b,fv,wd,w.heap.size,.nilFunc,(.int .i64 0),_,_,_,_,_,_,_,_,_,rfl,hb.alloc hb.size _,?_⟩
   (repeat'(first|exact vQ|refine A1 ?_ ?_|exact fun h=>by obtain⟨q0,hF,hl⟩:=H_f0.out h;exact⟨q0,hF.below hba,hl⟩|exact fun _=>⟨rfl,hb.size,Ab,Ab,Ab,Ab⟩|exact fun h _=>by obtain⟨q0,hF,hl⟩:=H_f0.out h;have:=hF.lts;omega|exact fun h=>⟨by simp[Io],by simpa[Io] using(H_c8.out h).2⟩))
  ·have p7:d 7=true:=hdep ⟨7,.data⟩ Ab rfl
   have p5:d 5=true:=hdep ⟨5,.data⟩ Ab rfl
   obtain⟨q1,q2,q3,q4,q5,q6⟩:=H_f7.out p7;subst q1
   have g:=H_f5.out p5;subst g
   obtain⟨-,hsh,-⟩:=H_f3.out (H_c4.out (H_c5.out p5))
   rcases hsh with rfl|⟨gg,cc,rfl⟩
   all_goals go_wp2
   refine⟨m,n,b,.nilFunc,wd,c,.nilFunc,.int .i64 wd,_,_,_,_,_,_,_,_,_,rfl,(hb.setCell q2 _).setCell q2 _,?_⟩
   rotate_left
   refine⟨m,n,b,.func (.func gg) #[] cc,wd,c,.func (.func gg) #[] cc,.int .i64 wd,_,_,_,_,_,_,_,_,_,rfl,(hb.setCell q2 _).setCell q2 _,?_⟩
   all_goals(repeat'(first|exact vQ|refine A1 ?_ ?_|exact fun h=>by obtain⟨q0,hF,hl⟩:=H_f0.out h;have hne:=H_g1.out h p7;exact⟨q0,(hF.store _ _ hne).store _ _ hne,hl⟩|exact fun h=>by have g:=H_f3.out h;grind|exact fun _=>⟨rfl,q2,sA q3 q4 _ _,sB q3 q4 _ _,(World.frozen?_setCell ..).trans ((World.frozen?_setCell ..).trans q5),(World.frozen?_setCell ..).trans ((World.frozen?_setCell ..).trans q6)⟩|exact fun _=>⟨rfl,rfl⟩|grind [Io]))
  ·have p6:d 6=true:=hdep ⟨6,.data⟩ Ab rfl
   have g:=H_f6.out p6;subst g
   go_wp2
   refine⟨m,n,b,fv,wd,c,u0,u1,_,_,_,_,_,_,_,_,_,rfl,hb,?_⟩
   (repeat'(first|exact vQ|refine A1 ?_ ?_))
end Go.Proofs.YtbedjionhmaafaaGreatDoor
