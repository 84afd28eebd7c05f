/- MQ: the texts Oct Pts Val7 Dec7, one behind the other. No condition but what each lemma says. -/
import Derived.Test.YtaoahmplnckhpaaGreatDoorMI
set_option maxRecDepth 100000
set_option maxHeartbeats 16000000
namespace Go.Proofs.YtaoahmplnckhpaaGreatDoor
open Go.RowKit
theorem Fi (x:Nat) (hx:x≤1099511627776):Ac Tryz.prog 208 [iv x] (fun r=>r= .d (Af true (Dc x))):=by
 have g0:decide ((x:Int)<0)=false:=decide_eq_false (by omega)
 by_cases h1:x>1114111
 ·have g1:decide ((x:Int)>1114111)=true:=decide_eq_true (by omega)
  have hs:D6 x=false:=by rw[Bool.eq_false_iff,Ne,Co];omega
  rw[Dc,if_neg (by simp[hs])]
  clear hs
  refine acQ 68 Tryz.func208 rfl rfl fun _ _ _=> ?_
  (repeat'((conv=>whnf);first|refine zP ?_|refine zN ?_|refine Ab ?_|refine Ae ?_|exact zE))
 ·have g1:decide ((x:Int)>1114111)=false:=decide_eq_false (by omega)
  by_cases h2:x≥55296∧x<57344
  ·have g2:decide ((x:Int)≥55296)=true:=decide_eq_true (by omega)
   have g3:decide ((x:Int)<57344)=true:=decide_eq_true (by omega)
   have hs:D6 x=false:=by rw[Bool.eq_false_iff,Ne,Co];omega
   rw[Dc,if_neg (by simp[hs])]
   clear hs h2
   refine acQ 68 Tryz.func208 rfl rfl fun _ _ _=> ?_
   (repeat'((conv=>whnf);first|refine zP ?_|refine zN ?_|refine Ab ?_|refine Ae ?_|exact zE))
  ·have hs:D6 x=true:=by rw[Co];omega
   rw[Dc,if_pos hs]
   clear hs
   have e:enc x=(Js x).map UInt8.ofNat:=rfl
   by_cases k1:x<128
   ·have g2:decide ((x:Int)≥55296)=false:=decide_eq_false (by omega)
    have g4:decide ((x:Int)<128)=true:=decide_eq_true (by omega)
    rw[Js,if_pos k1] at e
    rw[e]
    refine acQ 68 Tryz.func208 rfl rfl fun _ _ _=> ?_
    (repeat'((conv=>whnf);first|refine zP ?_|refine zN ?_|refine Ae ?_|(with_reducible refine Cr (x) ?_)));(all_goals(conv=>whnf))
    all_goals(refine Bw rfl (?_:_=_);try simp only[AV.dat])
    all_goals rfl
   ·have g4:decide ((x:Int)<128)=false:=decide_eq_false (by omega)
    rw[Js,if_neg k1] at e
    by_cases k2:x<2048
    ·have g2:decide ((x:Int)≥55296)=false:=decide_eq_false (by omega)
     have g5:decide ((x:Int)<2048)=true:=decide_eq_true (by omega)
     rw[if_pos k2] at e
     rw[e]
     refine acQ 68 Tryz.func208 rfl rfl fun _ _ _=> ?_
     (repeat'((conv=>whnf);first|refine zP ?_|refine zN ?_|refine Ae ?_|(with_reducible refine Cr (192+x/64) ?_)|(with_reducible refine Cr (128+x%64) ?_)|(with_reducible refine NInt.i64 ?_)|(with_reducible refine C1 ?_)|(with_reducible refine Ca ?_)|refine A0 (by first|decide|omega|(simp only[Ag,List.length_nil];omega)) ?_));(all_goals(conv=>whnf))
     all_goals(refine Bw rfl (?_:_=_);try simp only[AV.dat])
     all_goals rfl
    ·have g5:decide ((x:Int)<2048)=false:=decide_eq_false (by omega)
     rw[if_neg k2] at e
     by_cases k3:x<65536
     ·have g6:decide ((x:Int)<65536)=true:=decide_eq_true (by omega)
      rw[if_pos k3] at e
      rw[e]
      by_cases d:x≥55296
      ·have g2:decide ((x:Int)≥55296)=true:=decide_eq_true (by omega)
       have g3:decide ((x:Int)<57344)=false:=decide_eq_false (by omega)
       refine acQ 68 Tryz.func208 rfl rfl fun _ _ _=> ?_
       (repeat'((conv=>whnf);first|refine zP ?_|refine zN ?_|refine Ab ?_|refine Ae ?_|(with_reducible refine Cr (224+x/4096) ?_)|(with_reducible refine Cr (128+x/64%64) ?_)|(with_reducible refine Cr (128+x%64) ?_)|(with_reducible refine NInt.i64 ?_)|(with_reducible refine C1 ?_)|(with_reducible refine Ca ?_)|refine A0 (by first|decide|omega|(simp only[Ag,List.length_nil];omega)) ?_));(all_goals(conv=>whnf))
       all_goals(refine Bw rfl (?_:_=_);try simp only[AV.dat])
       all_goals rfl
      ·have g2:decide ((x:Int)≥55296)=false:=decide_eq_false (by omega)
       refine acQ 68 Tryz.func208 rfl rfl fun _ _ _=> ?_
       (repeat'((conv=>whnf);first|refine zP ?_|refine zN ?_|refine Ae ?_|(with_reducible refine Cr (224+x/4096) ?_)|(with_reducible refine Cr (128+x/64%64) ?_)|(with_reducible refine Cr (128+x%64) ?_)|(with_reducible refine NInt.i64 ?_)|(with_reducible refine C1 ?_)|(with_reducible refine Ca ?_)|refine A0 (by first|decide|omega|(simp only[Ag,List.length_nil];omega)) ?_));(all_goals(conv=>whnf))
       all_goals(refine Bw rfl (?_:_=_);try simp only[AV.dat])
       all_goals rfl
     ·have g6:decide ((x:Int)<65536)=false:=decide_eq_false (by omega)
      have g2:decide ((x:Int)≥55296)=true:=decide_eq_true (by omega)
      have g3:decide ((x:Int)<57344)=false:=decide_eq_false (by omega)
      rw[if_neg k3] at e
      rw[e]
      refine acQ 68 Tryz.func208 rfl rfl fun _ _ _=> ?_
      (repeat'((conv=>whnf);first|refine zP ?_|refine zN ?_|refine Ab ?_|refine Ae ?_|(with_reducible refine Cr (240+x/262144) ?_)|(with_reducible refine Cr (128+x/4096%64) ?_)|(with_reducible refine Cr (128+x/64%64) ?_)|(with_reducible refine Cr (128+x%64) ?_)|(with_reducible refine NInt.i64 ?_)|(with_reducible refine C1 ?_)|(with_reducible refine Ca ?_)|refine A0 (by first|decide|omega|(simp only[Ag,List.length_nil];omega)) ?_));(all_goals(conv=>whnf))
      all_goals(refine Bw rfl (?_:_=_);try simp only[AV.dat])
      all_goals rfl
theorem eC (k:Int):Ac Tryz.prog 198 [iv k] (fun r=>r=iv (Aq k)):=by
 have hc:∀c:Int,k=c∨k≠c:=fun c=>by omega
 rcases hc 12 with rfl|n1
 ·refine acQ 15 Tryz.func198 rfl rfl fun _ _ _=> ?_
  (repeat'((conv=>whnf);refine Ab ?_));(all_goals(conv=>whnf))
  all_goals exact zE
 rcases hc 28 with rfl|n2
 ·refine acQ 15 Tryz.func198 rfl rfl fun _ _ _=> ?_
  (repeat'((conv=>whnf);first|refine Ab ?_|refine Ae ?_|exact zE))
 rcases hc 30 with rfl|n3
 ·refine acQ 15 Tryz.func198 rfl rfl fun _ _ _=> ?_
  (repeat'((conv=>whnf);first|refine Ab ?_|refine Ae ?_|exact zE))
 rcases hc 19 with rfl|n4
 ·refine acQ 15 Tryz.func198 rfl rfl fun _ _ _=> ?_
  (repeat'((conv=>whnf);first|refine Ab ?_|refine Ae ?_|exact zE))
 rcases hc 20 with rfl|n5
 ·refine acQ 15 Tryz.func198 rfl rfl fun _ _ _=> ?_
  (repeat'((conv=>whnf);first|refine Ab ?_|refine Ae ?_|exact zE))
 rcases hc 22 with rfl|n6
 ·refine acQ 15 Tryz.func198 rfl rfl fun _ _ _=> ?_
  (repeat'((conv=>whnf);first|refine Ab ?_|refine Ae ?_|exact zE))
 rcases hc 26 with rfl|n7
 ·refine acQ 15 Tryz.func198 rfl rfl fun _ _ _=> ?_
  (repeat'((conv=>whnf);first|refine Ab ?_|refine Ae ?_|exact zE))
 have g1:(k==12)=false:=beq_eq_false_iff_ne.2 n1
 have g2:(k==28)=false:=beq_eq_false_iff_ne.2 n2
 have g3:(k==30)=false:=beq_eq_false_iff_ne.2 n3
 have g4:(k==19)=false:=beq_eq_false_iff_ne.2 n4
 have g5:(k==20)=false:=beq_eq_false_iff_ne.2 n5
 have g6:(k==22)=false:=beq_eq_false_iff_ne.2 n6
 have g7:(k==26)=false:=beq_eq_false_iff_ne.2 n7
 have e:Aq k= -1:=by
  unfold Aq
  rw[if_neg n1,if_neg n2,if_neg n3,if_neg (by omega)]
 rw[e]
 refine acQ 15 Tryz.func198 rfl rfl fun _ _ _=> ?_
 (repeat'((conv=>whnf);refine zN ?_));(all_goals(conv=>whnf))
 all_goals exact zE
def Sk:List UInt8:=[32,39,40,41,43,44,45,46,47,58,61,63]
theorem xQ {x i:Nat} {c:UInt8} (h:Sk[i]?=some c) (e:c.toNat=x):oth.contains x=true:=by
 have h1:∀c∈Sk,oth.contains c.toNat=true:=by decide+kernel
 rw[←e];exact h1 c (Bk h)
theorem CA {x:Nat} (h:∀(m:Nat) (c:UInt8),Sk[m]?=some c→c.toNat≠x):oth.contains x=false:=by
 rw[Bool.eq_false_iff];intro hc
 have h1:∀y∈oth,∃c∈Sk,c.toNat=y:=by decide+kernel
 obtain⟨c,hc',e⟩:=h1 x (by simpa using hc)
 obtain⟨m,hm⟩:=List.getElem?_of_mem hc'
 exact h m c hm e
theorem Z2 (k:Int) (hk:k=12∨k=28) (x:Nat) (hx:x≤1099511627776):Ac Tryz.prog 199 [iv k,iv x] (fun r=>r=bv (Bh k x)):=by
 have hO:=Fi x hx
 have e:Bh k x=decide (((Dc x).length:Int)>0):=by
  unfold Bh;rw[if_pos hk]
  cases hs:D6 x
  ·have:Dc x=[]:=by unfold Dc;rw[if_neg (by simp[hs])]
   rw[this];rfl
  ·obtain⟨m,hm⟩:=Mm x hs
   rw[hm];exact(decide_eq_true (by omega)).symm
 rw[e]
 rcases hk with rfl|rfl
 ·refine acQ 93 Tryz.func199 rfl rfl fun _ _ _=> ?_
  (repeat'((conv=>whnf);first|refine Ab ?_|refine Aa hO rfl ?_|exact zE))
 ·refine acQ 93 Tryz.func199 rfl rfl fun _ _ _=> ?_
  (repeat'((conv=>whnf);first|refine Ab ?_|refine Ae ?_|refine Aa hO rfl ?_|exact zE))
theorem sQ (x:Nat) (hx:x≤1099511627776):Ac Tryz.prog 199 [iv 30,iv x] (fun r=>r=bv (Bh 30 x)):=by
 have hO:=Fi x hx
 have e:Bh 30 x=(D6 x&&decide (x<65536)):=rfl
 cases hs:D6 x
 ·have ho:Dc x=[]:=by unfold Dc;rw[if_neg (by simp[hs])]
  rw[e,hs,Bool.false_and]
  rw[ho] at hO
  clear hs
  refine acQ 93 Tryz.func199 rfl rfl fun _ _ _=> ?_
  (repeat'((conv=>whnf);first|refine Ab ?_|refine Ae ?_|refine Aa hO rfl ?_|exact zE))
 ·obtain⟨m,hm⟩:=Mm x hs
  have g:decide (((Dc x).length:Int)>0)=true:=decide_eq_true (by omega)
  rw[e,hs,Bool.true_and,show decide (x<65536)=decide ((x:Int)<65536) from decide_eq_decide.2 (by omega)]
  clear hs
  refine acQ 93 Tryz.func199 rfl rfl fun _ _ _=> ?_
  (repeat'((conv=>whnf);first|refine zP ?_|refine Ab ?_|refine Ae ?_|refine Aa hO rfl ?_|exact zE))
theorem sR (x:Nat):Ac Tryz.prog 199 [iv 22,iv x] (fun r=>r=bv (Bh 22 x)):=by
 have g:decide ((x:Int)≥0)=true:=decide_eq_true (by omega)
 rw[show Bh 22 x=decide ((x:Int)<128) from(show Bh 22 x=decide (x<128) from rfl).trans (decide_eq_decide.2 (by omega))]
 refine acQ 93 Tryz.func199 rfl rfl fun _ _ _=> ?_
 (repeat'((conv=>whnf);first|refine zP ?_|refine Ab ?_|refine Ae ?_|exact zE))
theorem sS (x:Nat):Ac Tryz.prog 199 [iv 26,iv x] (fun r=>r=bv (Bh 26 x)):=by
 have e:Bh 26 x=decide (32≤x∧x<127):=rfl
 by_cases d:x≥32
 ·have g:decide ((x:Int)≥32)=true:=decide_eq_true (by omega)
  rw[e,show decide (32≤x∧x<127)=decide ((x:Int)<127) from decide_eq_decide.2 (by omega)]
  refine acQ 93 Tryz.func199 rfl rfl fun _ _ _=> ?_
  (repeat'((conv=>whnf);first|refine zP ?_|refine Ab ?_|refine Ae ?_|exact zE))
 ·have g:decide ((x:Int)≥32)=false:=decide_eq_false (by omega)
  rw[e,show decide (32≤x∧x<127)=false from decide_eq_false (by omega)]
  refine acQ 93 Tryz.func199 rfl rfl fun _ _ _=> ?_
  (repeat'((conv=>whnf);first|refine zN ?_|refine Ab ?_|refine Ae ?_|exact zE))
theorem sT (x:Nat):Ac Tryz.prog 199 [iv 20,iv x] (fun r=>r=bv (Bh 20 x)):=by
 have e:Bh 20 x=decide ((32≤x∧x<127)∨(160≤x∧x<256)):=rfl
 by_cases d:x≥160
 ·have g1:decide ((x:Int)≥32)=true:=decide_eq_true (by omega)
  have g2:decide ((x:Int)<127)=false:=decide_eq_false (by omega)
  have g3:decide ((x:Int)≥160)=true:=decide_eq_true (by omega)
  rw[e,show decide ((32≤x∧x<127)∨(160≤x∧x<256))=decide ((x:Int)<256) from decide_eq_decide.2 (by omega)]
  refine acQ 93 Tryz.func199 rfl rfl fun _ _ _=> ?_
  (repeat'((conv=>whnf);first|refine zP ?_|refine zN ?_|refine Ab ?_|refine Ae ?_|exact zE))
 ·have g3:decide ((x:Int)≥160)=false:=decide_eq_false (by omega)
  by_cases d1:32≤x∧x<127
  ·have g1:decide ((x:Int)≥32)=true:=decide_eq_true (by omega)
   have g2:decide ((x:Int)<127)=true:=decide_eq_true (by omega)
   rw[e,show decide ((32≤x∧x<127)∨(160≤x∧x<256))=true from decide_eq_true (by omega)]
   refine acQ 93 Tryz.func199 rfl rfl fun _ _ _=> ?_
   (repeat'((conv=>whnf);first|refine zP ?_|refine Ab ?_|refine Ae ?_|exact zE))
  ·rw[e,show decide ((32≤x∧x<127)∨(160≤x∧x<256))=false from decide_eq_false (by omega)]
   by_cases d2:x≥32
   ·have g1:decide ((x:Int)≥32)=true:=decide_eq_true (by omega)
    have g2:decide ((x:Int)<127)=false:=decide_eq_false (by omega)
    refine acQ 93 Tryz.func199 rfl rfl fun _ _ _=> ?_
    (repeat'((conv=>whnf);first|refine zP ?_|refine zN ?_|refine Ab ?_|refine Ae ?_|exact zE))
   ·have g1:decide ((x:Int)≥32)=false:=decide_eq_false (by omega)
    refine acQ 93 Tryz.func199 rfl rfl fun _ _ _=> ?_
    (repeat'((conv=>whnf);first|refine zN ?_|refine Ab ?_|refine Ae ?_|exact zE))
theorem sU (x:Nat):Ac Tryz.prog 199 [iv 19,iv x] (fun r=>r=bv (Bh 19 x)):=by
 have e:Bh 19 x=(decide ((48≤x∧x<58)∨(65≤x∧x<91)∨(97≤x∧x<123))||oth.contains x):=rfl
 by_cases d:(48≤x∧x<58)∨(65≤x∧x<91)∨(97≤x∧x<123)
 ·rw[e,decide_eq_true d,Bool.true_or]
  refine acQ 93 Tryz.func199 rfl rfl fun _ _ _=> ?_
  (repeat'((conv=>whnf);first|refine Ab ?_|refine Ae ?_|(refine Ah (fun hc hcP=> ?_) (fun hc hcP=> ?_)<;>try(exfalso;omega))|exact zE))
 ·rw[e,decide_eq_false d,Bool.false_or]
  refine acQ 93 Tryz.func199 rfl rfl fun _ _ _=> ?_
  (repeat'((conv=>whnf);first|refine Ab ?_|refine Ae ?_|(refine Ah (fun hc hcP=> ?_) (fun hc hcP=> ?_)<;>try(exfalso;omega))));(all_goals(conv=>whnf))
  all_goals refine Az (fun i:Nat=>i≤12∧∀(m:Nat) (c:UInt8),m<i→Sk[m]?=some c→c.toNat≠x) (fun i=>12-i) (fun i=>⟨[(1,iv x),(5,.d (.v (.string ⟨⟨Sk⟩⟩))),(6,iv i)],[],[]⟩) 0 ⟨by omega,fun m c h=>by omega⟩ leQ ?_
  all_goals
   intro i hi
   obtain⟨h1,h2⟩:=hi
   have hL:Sk.length=12:=rfl
   by_cases hil:i<12
   ·obtain⟨c,hx⟩:∃p,Sk[i]?=some p:=⟨_,Ak hil⟩
    have hcl:=c.toNat_lt
    have g:decide ((i:Int)<(Sk.length:Int))=true:=decide_eq_true (by omega)
    by_cases h3:c.toNat=x
    ·have g3:((c.toNat:Int)==(x:Int))=true:=beq_iff_eq.2 (by omega)
     rw[xQ hx h3]
     (repeat'((conv=>whnf);first|refine zP ?_|refine Bv hx ?_|(with_reducible refine NInt.i64 ?_)|exact zE))
    ·have g3:((c.toNat:Int)==(x:Int))=false:=beq_eq_false_iff_ne.2 (by omega)
     (repeat'((conv=>whnf);first|refine zP ?_|refine zN ?_|refine Bv hx ?_|(with_reducible refine NInt.i64 ?_)));(all_goals(conv=>whnf))
     refine⟨i+1,⟨by omega,fun m c' hm hc'=> ?_⟩,by omega,?_⟩
     ·by_cases hmi:m=i
      ·subst hmi;rw[hx] at hc';cases hc';exact h3
      ·exact h2 m c' (by omega) hc'
     exact leQ
   ·have g:decide ((i:Int)<(Sk.length:Int))=false:=decide_eq_false (by omega)
    rw[CA fun m c hc=>h2 m c (by have:=(As.1 hc).1;have:Sk.length=12:=rfl;omega) hc]
    (repeat'((conv=>whnf);refine zN ?_));(all_goals(conv=>whnf))
    all_goals exact zE
theorem sV (k:Int) (hk:0≤Aq k) (x:Nat) (hx:x≤1099511627776):Ac Tryz.prog 199 [iv k,iv x] (fun r=>r=bv (Bh k x)):=by
 rcases Ef k (by omega) with rfl|rfl|rfl|rfl|rfl|rfl|rfl
 ·exact Z2 12 (.inl rfl) x hx
 ·exact sU x
 ·exact sT x
 ·exact sR x
 ·exact sS x
 ·exact Z2 28 (.inr rfl) x hx
 ·exact sQ x hx
end Go.Proofs.YtaoahmplnckhpaaGreatDoor
namespace Go.Proofs.YtaoahmplnckhpaaGreatDoor
open Go.RowKit
open Go.Lib (validD decodeL)
def Te (n:Nat):List D:=[.v (.int .i64 n)]
def xR (t:Bool) (a:List Nat):D:=Ey t 1 Te a
theorem xS {b:Nat} (h1:240≤b) (h2:b<248):D7 b=some (3,b-240):=by unfold D7;rw[if_pos (by omega)]
theorem xT {b:Nat} (h1:224≤b) (h2:b<240):D7 b=some (2,b-224):=by unfold D7;rw[if_neg (by omega),if_pos (by omega)]
theorem xU {b:Nat} (h1:192≤b) (h2:b<224):D7 b=some (1,b-192):=by unfold D7;rw[if_neg (by omega),if_neg (by omega),if_pos (by omega)]
theorem xV {b:Nat} (h2:b<128):D7 b=some (0,b):=by unfold D7;rw[if_neg (by omega),if_neg (by omega),if_neg (by omega),if_neg (by omega)]
theorem sW {b:Nat} (h:(128≤b∧b<192)∨248≤b):D7 b=none:=by unfold D7;rw[if_neg (by omega),if_neg (by omega),if_neg (by omega),if_pos (by omega)]
theorem Mf (t:List UInt8) (n k x:Nat) (h0:¬(t.getD k 0).toNat<128) (h1:¬192≤(t.getD k 0).toNat):
 Dq t (n+1) k x=Dq t n (k+1) (x*64+(t.getD k 0).toNat-128):=by
 rw[Dq,if_neg (by omega)]
theorem Ou (t:List UInt8) (n k x:Nat) (h:(t.getD k 0).toNat<128∨192≤(t.getD k 0).toNat):Dq t (n+1) k x=none:=by
 rw[Dq,if_pos h]
theorem eD {t:List UInt8} (h:D7 (t.getD 0 0).toNat=none):Fk t=none:=by unfold Fk;rw[h]
theorem Z3 {t:List UInt8} {n x:Nat} (h:D7 (t.getD 0 0).toNat=some (n,x)) (hn:t.length≤n):Fk t=none:=by
 unfold Fk;rw[h];simp only[];rw[if_pos hn]
theorem eE {t:List UInt8} {n x:Nat} (h:D7 (t.getD 0 0).toNat=some (n,x)) (hn:¬t.length≤n) (hc:Dq t n 1 x=none):Fk t=none:=by
 unfold Fk;rw[h];simp only[];rw[if_neg hn,hc]
theorem mQ {t:List UInt8} {n x y:Nat} (h:D7 (t.getD 0 0).toNat=some (n,x)) (hn:¬t.length≤n) (hc:Dq t n 1 x=some y) (ho:Dc y≠t.take (n+1)):Fk t=none:=by
 unfold Fk;rw[h];simp only[];rw[if_neg hn,hc];simp only[];rw[if_neg ho]
theorem mR {t:List UInt8} {n x y:Nat} (h:D7 (t.getD 0 0).toNat=some (n,x)) (hn:¬t.length≤n) (hc:Dq t n 1 x=some y) (ho:Dc y=t.take (n+1)):Fk t=some (y,n+1):=by
 unfold Fk;rw[h];simp only[];rw[if_neg hn,hc];simp only[];rw[if_pos ho]
theorem mS {s:List UInt8} {pre:List Nat} {t:List UInt8} {X n:Nat} (hst:s=pre.flatMap enc++t) (hv:validD t=validD s)
 (hr:validD s=true→rns s=pre++rns t) (ht:t≠[]) (hs:Fk t=some (X,n)):
 s=(pre++[X]).flatMap enc++t.drop n∧((pre++[X]).flatMap enc).length=(pre.flatMap enc).length+n∧validD (t.drop n)=validD s∧
  (validD s=true→rns s=(pre++[X])++rns (t.drop n))∧1≤n:=by
 obtain⟨h1,h2,h3⟩:=Lr ht hs
 obtain⟨h4,h5⟩:=Tf X h1 (t.drop n)
 rw[←h2] at h4 h5
 refine⟨?_,?_,?_,?_,?_⟩
 ·rw[hst,List.flatMap_append]
  simp only[List.flatMap_cons,List.flatMap_nil,List.append_nil,List.append_assoc]
  rw[←h2]
 ·rw[List.flatMap_append]
  simp only[List.flatMap_cons,List.flatMap_nil,List.append_nil,Aj]
  rw[h3]
 ·rw[←h4,hv]
 ·intro hV
  rw[hr hV,h5]
  simp
 ·rw[h3];exact(E2 X).1
def Wv (s:List UInt8):AV:=if validD s then .tup [.d (xR true (rns s)),bv true] else .tup [Bj,bv false]
theorem Z4 {s:List UInt8} (h:validD s=false):Wv s= .tup [Bj,bv false]:=by unfold Wv;rw[h];rfl
theorem sX (c:Nat):(128≤c∧c<192)∨248≤c∨(240≤c∧c<248)∨(224≤c∧c<240)∨(192≤c∧c<224)∨c<128:=by omega
theorem Ww {k x:Nat} (h:x<256^k) (hk:k≤4):x<4294967296:=Nat.lt_of_lt_of_le h (Nat.pow_le_pow_right (n:=256) (by omega) hk)
theorem Z5 (s:List UInt8) (hs:s.length≤16777216):Ac Tryz.prog 197 [.d (.v (.string ⟨⟨s⟩⟩))] (fun r=>r=Wv s):=by
 refine acQ 92 Tryz.func197 rfl rfl fun _ _ _=> ?_
 (all_goals(conv=>whnf))
 refine Bt [.s 4 1 3] (fun p:Nat×List Nat×List UInt8=>p.1+p.2.2.length=s.length∧p.2.1.length≤p.1∧(p.2.1.flatMap enc).length=p.1∧s=p.2.1.flatMap enc++p.2.2∧validD p.2.2=validD s∧(validD s=true→rns s=p.2.1++rns p.2.2)) (fun p=>p.2.2.length) (fun p=>⟨[(0,.d (.v (.string ⟨⟨s⟩⟩))),(4,C7 4 1 3 Te p.2.1),(5,iv p.1)],[],[(4,(p.2.1.length,1,3))]⟩) (0,[],s) ⟨by simp,by simp,by simp,by simp,rfl,fun _=>rfl⟩ leQ ?_
 rintro⟨i,pre,t⟩ ⟨h1,h2,h3,h4,h5,h6⟩
 simp only at h1 h2 h3 h4 h5 h6
 cases t with
 |nil=>
  have hv:validD s=true:=by rw[←h5];rfl
  have hR:=h6 hv
  rw[Ut,List.append_nil] at hR
  have g:decide ((i:Int)<(s.length:Int))=false:=decide_eq_false (by simp at h1;omega)
  rw[show Wv s= .tup [.d (xR true pre),bv true] by unfold Wv;rw[if_pos hv,hR]]
  (repeat'((conv=>whnf);refine zN ?_));(all_goals(conv=>whnf))
  all_goals exact zE
 |cons c r=>
  rw[Ag] at h1
  have hg:∀k,s[i+k]?=(c::r)[k]?:=fun k=>by
   rw[h4,List.getElem?_append_right (by omega),h3];congr 1;omega
  have hx:s[i]?=some c:=hg 0
  have hcl:=c.toNat_lt
  have hc0:((c::r).getD 0 0)=c:=rfl
  have g:decide ((i:Int)<(s.length:Int))=true:=decide_eq_true (by omega)
  have hbad:Fk (c::r)=none→Wv s= .tup [Bj,bv false]:=fun h=>Z4 (by rw[←h5];exact iY _ (by simp) h)
  generalize hq:Wv s=q at hbad⊢
  have hlead:((128≤c.toNat∧c.toNat<192)∨248≤c.toNat)∨∃(n x0:Nat) (z:Int),D7 c.toNat=some (n,x0)∧z=n∧x0<256∧n≤3∧((n=3∧240≤c.toNat∧c.toNat<248∧x0=c.toNat-240)∨(n=2∧224≤c.toNat∧c.toNat<240∧x0=c.toNat-224)∨(n=1∧192≤c.toNat∧c.toNat<224∧x0=c.toNat-192)∨(n=0∧c.toNat<128∧x0=c.toNat)):=by
   rcases sX c.toNat with h|h|h|h|h|h
   ·exact .inl (.inl h)
   ·exact .inl (.inr h)
   ·exact .inr ⟨3,c.toNat-240,3,xS h.1 h.2,rfl,by omega,by omega,.inl ⟨rfl,h.1,h.2,rfl⟩⟩
   ·exact .inr ⟨2,c.toNat-224,2,xT h.1 h.2,rfl,by omega,by omega,.inr (.inl ⟨rfl,h.1,h.2,rfl⟩)⟩
   ·exact .inr ⟨1,c.toNat-192,1,xU h.1 h.2,rfl,by omega,by omega,.inr (.inr (.inl ⟨rfl,h.1,h.2,rfl⟩))⟩
   ·exact .inr ⟨0,c.toNat,0,xV h,rfl,by omega,by omega,.inr (.inr (.inr ⟨rfl,h,rfl⟩))⟩
  rcases hlead with hl|⟨n,x0,z,hl,hz,hx0,hn3,hcase⟩
  ·obtain rfl:=hbad (eD (sW hl))
   (repeat'((conv=>whnf);first|refine zP ?_|refine Ab ?_|refine Ae ?_|refine Bv hx ?_|(with_reducible refine NInt.i64 ?_)|(refine Ah (fun hc hcP=> ?_) (fun hc hcP=> ?_)<;>try(exfalso;omega))|exact zE))
  ·by_cases hlen:r.length<n
   ·obtain rfl:=hbad (Z3 hl (by rw[Ag];omega))
    rcases hcase with⟨rfl,c1,c2,c3⟩|⟨rfl,c1,c2,c3⟩|⟨rfl,c1,c2,c3⟩|⟨rfl,c1,c3⟩
    all_goals(repeat'((conv=>whnf);first|refine zP ?_|refine Ab ?_|refine Ae ?_|refine Bv hx ?_|(with_reducible refine NInt.i64 ?_)|(refine Ah (fun hc hcP=> ?_) (fun hc hcP=> ?_)<;>try(exfalso;omega))|exact zE))
   ·have gl:∀z:Int,z=(n:Int)→decide ((i:Int)+z≥(s.length:Int))=false:=fun z hz=>decide_eq_false (by omega)
    have hround:∀(W:Nat),W=W:=fun _=>rfl
    have hbad1:Dq (c::r) n 1 x0=none→q= .tup [Bj,bv false]:=fun h=>hbad (eE hl (by rw[Ag];omega) h)
    have hbad2:∀X,Dq (c::r) n 1 x0=some X→Dc X≠(c::r).take (n+1)→q= .tup [Bj,bv false]:=fun X a b=>hbad (mQ hl (by rw[Ag];omega) a b)
    have hgood:∀X,Dq (c::r) n 1 x0=some X→Dc X=(c::r).take (n+1)→_:=fun X a b=>mS h4 h5 h6 (by simp) (mR hl (by rw[Ag];omega) a b)
    have hcut:(s.drop i).take (i+n+1-i)=(c::r).take (n+1):=by
     rw[h4,List.drop_append_of_le_length (by omega),List.drop_of_length_le (by omega),List.nil_append];congr 1;omega
    rcases hcase with⟨rfl,c1,c2,c3⟩|⟨rfl,c1,c2,c3⟩|⟨rfl,c1,c2,c3⟩|⟨rfl,c1,c3⟩
    ·subst hz
     have gl:=gl _ rfl
     (repeat'((conv=>whnf);first|refine zP ?_|refine Ab ?_|refine Bv hx ?_|(with_reducible refine NInt.i64 ?_)|(refine Ah (fun hc hcP=> ?_) (fun hc hcP=> ?_)<;>try(exfalso;omega))));(all_goals(conv=>whnf))
     refine Az (fun p:Nat×Nat=>1≤p.1∧p.1≤3+1∧p.2<256^p.1∧Dq (c::r) (3+1-p.1) p.1 p.2=Dq (c::r) 3 1 x0) (fun p=>4-p.1) (fun p=>⟨[(0,.d (.v (.string ⟨⟨s⟩⟩))),(4,C7 4 1 3 Te pre),(5,iv i),(6,iv p.2),(7,iv 3),(8,iv p.1)],[],[(4,(pre.length,1,3))]⟩) (1,x0) ⟨by simp,by simp,by simpa using hx0,rfl⟩ leQ ?_
     rintro⟨k,x⟩ ⟨k1,k2,k3,k4⟩
     simp only at k1 k2 k3 k4
     have k5:=Ww k3 (by omega)
     by_cases hk:k≤3
     ·obtain⟨d,hd⟩:∃d,(c::r)[k]?=some d:=⟨_,Ak (by rw[Ag];omega)⟩
      have hy:=(hg k).trans hd
      have hdl:=d.toNat_lt
      have hgd:(c::r).getD k 0=d:=by rw[List.getD_eq_getElem?_getD,hd];rfl
      obtain⟨m,hm⟩:∃m,3+1-k=m+1:=⟨3-k,by omega⟩
      rw[hm] at k4
      by_cases hok:d.toNat<128∨192≤d.toNat
      ·obtain rfl:=hbad1 (by rw[←k4];exact Ou _ _ _ _ (by rw[hgd];exact hok))
       (repeat'((conv=>whnf);first|refine Ab ?_|refine Ae ?_|refine Bv hy ?_|(with_reducible refine NInt.i64 ?_)|(refine Ah (fun hc hcP=> ?_) (fun hc hcP=> ?_)<;>try(exfalso;omega))|exact zE))
      ·rw[Mf _ _ _ _ (by rw[hgd];omega) (by rw[hgd];omega),hgd] at k4
       (repeat'((conv=>whnf);first|refine Ae ?_|refine Bv hy ?_|(with_reducible refine NInt.i64 ?_)|(refine Ah (fun hc hcP=> ?_) (fun hc hcP=> ?_)<;>try(exfalso;omega))));(all_goals(conv=>whnf))
       refine⟨(k+1,x*64+d.toNat-128),⟨by show 1≤k+1;omega,by show k+1≤_;omega,by show _<256^(k+1);rw[Nat.pow_succ];omega,by show Dq _ (3+1-(k+1)) _ _=_;rw[show 3+1-(k+1)=m by omega];exact k4⟩,by show 4-(k+1)<4-k;omega,?_⟩
       exact leQ
     ·obtain rfl:k=3+1:=by omega
      rw[Nat.sub_self] at k4
      have k4:some x=_:=k4
      have hO:=Fi x (by omega)
      by_cases hoc:Dc x=(c::r).take (3+1)
      ·obtain⟨a1,a2,a3,a4,a5⟩:=hgood x k4.symm hoc
       have hne:(!(Dc x==(c::r).take (3+1)))=false:=by rw[hoc,beq_self_eq_true];rfl
       (repeat'((conv=>whnf);first|refine zN ?_|refine Ae ?_|refine Aa hO rfl ?_|(refine H7 i (i+3+1) _ hcut ?_)|refine A8 Te x ?_|(with_reducible refine NInt.i64 ?_)|(with_reducible refine Gf ?_)|refine zF ?_));(all_goals(conv=>whnf))
       refine⟨(i+(3+1),pre++[x],(c::r).drop (3+1)),⟨by show _+List.length _=_;rw[Aw,Ag];omega,by show List.length _≤_;simp;omega,by show _=i+(3+1);rw[a2];omega,a1,a3,a4⟩,by show List.length _<List.length _;rw[Aw,Ag];omega,?_⟩
       exact leQ
      ·obtain rfl:=hbad2 x k4.symm hoc
       have hne:(!(Dc x==(c::r).take (3+1)))=true:=by rw[beq_eq_false_iff_ne.2 hoc];rfl
       (repeat'((conv=>whnf);first|refine zP ?_|refine Ae ?_|refine Aa hO rfl ?_|(refine H7 i (i+3+1) _ hcut ?_)|(with_reducible refine NInt.i64 ?_)|(with_reducible refine Gf ?_)|refine zF ?_|exact zE))
    ·subst hz
     have gl:=gl _ rfl
     (repeat'((conv=>whnf);first|refine zP ?_|refine Ab ?_|refine Ae ?_|refine Bv hx ?_|(with_reducible refine NInt.i64 ?_)|(refine Ah (fun hc hcP=> ?_) (fun hc hcP=> ?_)<;>try(exfalso;omega))));(all_goals(conv=>whnf))
     refine Az (fun p:Nat×Nat=>1≤p.1∧p.1≤2+1∧p.2<256^p.1∧Dq (c::r) (2+1-p.1) p.1 p.2=Dq (c::r) 2 1 x0) (fun p=>4-p.1) (fun p=>⟨[(0,.d (.v (.string ⟨⟨s⟩⟩))),(4,C7 4 1 3 Te pre),(5,iv i),(6,iv p.2),(7,iv 2),(8,iv p.1)],[],[(4,(pre.length,1,3))]⟩) (1,x0) ⟨by simp,by simp,by simpa using hx0,rfl⟩ leQ ?_
     rintro⟨k,x⟩ ⟨k1,k2,k3,k4⟩
     simp only at k1 k2 k3 k4
     have k5:=Ww k3 (by omega)
     by_cases hk:k≤2
     ·obtain⟨d,hd⟩:∃d,(c::r)[k]?=some d:=⟨_,Ak (by rw[Ag];omega)⟩
      have hy:=(hg k).trans hd
      have hdl:=d.toNat_lt
      have hgd:(c::r).getD k 0=d:=by rw[List.getD_eq_getElem?_getD,hd];rfl
      obtain⟨m,hm⟩:∃m,2+1-k=m+1:=⟨2-k,by omega⟩
      rw[hm] at k4
      by_cases hok:d.toNat<128∨192≤d.toNat
      ·obtain rfl:=hbad1 (by rw[←k4];exact Ou _ _ _ _ (by rw[hgd];exact hok))
       (repeat'((conv=>whnf);first|refine Ab ?_|refine Ae ?_|refine Bv hy ?_|(with_reducible refine NInt.i64 ?_)|(refine Ah (fun hc hcP=> ?_) (fun hc hcP=> ?_)<;>try(exfalso;omega))|exact zE))
      ·rw[Mf _ _ _ _ (by rw[hgd];omega) (by rw[hgd];omega),hgd] at k4
       (repeat'((conv=>whnf);first|refine Ae ?_|refine Bv hy ?_|(with_reducible refine NInt.i64 ?_)|(refine Ah (fun hc hcP=> ?_) (fun hc hcP=> ?_)<;>try(exfalso;omega))));(all_goals(conv=>whnf))
       refine⟨(k+1,x*64+d.toNat-128),⟨by show 1≤k+1;omega,by show k+1≤_;omega,by show _<256^(k+1);rw[Nat.pow_succ];omega,by show Dq _ (2+1-(k+1)) _ _=_;rw[show 2+1-(k+1)=m by omega];exact k4⟩,by show 4-(k+1)<4-k;omega,?_⟩
       exact leQ
     ·obtain rfl:k=2+1:=by omega
      rw[Nat.sub_self] at k4
      have k4:some x=_:=k4
      have hO:=Fi x (by omega)
      by_cases hoc:Dc x=(c::r).take (2+1)
      ·obtain⟨a1,a2,a3,a4,a5⟩:=hgood x k4.symm hoc
       have hne:(!(Dc x==(c::r).take (2+1)))=false:=by rw[hoc,beq_self_eq_true];rfl
       (repeat'((conv=>whnf);first|refine zN ?_|refine Ae ?_|refine Aa hO rfl ?_|(refine H7 i (i+2+1) _ hcut ?_)|refine A8 Te x ?_|(with_reducible refine NInt.i64 ?_)|(with_reducible refine Gf ?_)|refine zF ?_));(all_goals(conv=>whnf))
       refine⟨(i+(2+1),pre++[x],(c::r).drop (2+1)),⟨by show _+List.length _=_;rw[Aw,Ag];omega,by show List.length _≤_;simp;omega,by show _=i+(2+1);rw[a2];omega,a1,a3,a4⟩,by show List.length _<List.length _;rw[Aw,Ag];omega,?_⟩
       exact leQ
      ·obtain rfl:=hbad2 x k4.symm hoc
       have hne:(!(Dc x==(c::r).take (2+1)))=true:=by rw[beq_eq_false_iff_ne.2 hoc];rfl
       (repeat'((conv=>whnf);first|refine zP ?_|refine Ae ?_|refine Aa hO rfl ?_|(refine H7 i (i+2+1) _ hcut ?_)|(with_reducible refine NInt.i64 ?_)|(with_reducible refine Gf ?_)|refine zF ?_|exact zE))
    ·subst hz
     have gl:=gl _ rfl
     (repeat'((conv=>whnf);first|refine zP ?_|refine Ab ?_|refine Ae ?_|refine Bv hx ?_|(with_reducible refine NInt.i64 ?_)|(refine Ah (fun hc hcP=> ?_) (fun hc hcP=> ?_)<;>try(exfalso;omega))));(all_goals(conv=>whnf))
     refine Az (fun p:Nat×Nat=>1≤p.1∧p.1≤1+1∧p.2<256^p.1∧Dq (c::r) (1+1-p.1) p.1 p.2=Dq (c::r) 1 1 x0) (fun p=>4-p.1) (fun p=>⟨[(0,.d (.v (.string ⟨⟨s⟩⟩))),(4,C7 4 1 3 Te pre),(5,iv i),(6,iv p.2),(7,iv 1),(8,iv p.1)],[],[(4,(pre.length,1,3))]⟩) (1,x0) ⟨by simp,by simp,by simpa using hx0,rfl⟩ leQ ?_
     rintro⟨k,x⟩ ⟨k1,k2,k3,k4⟩
     simp only at k1 k2 k3 k4
     have k5:=Ww k3 (by omega)
     by_cases hk:k≤1
     ·obtain⟨d,hd⟩:∃d,(c::r)[k]?=some d:=⟨_,Ak (by rw[Ag];omega)⟩
      have hy:=(hg k).trans hd
      have hdl:=d.toNat_lt
      have hgd:(c::r).getD k 0=d:=by rw[List.getD_eq_getElem?_getD,hd];rfl
      obtain⟨m,hm⟩:∃m,1+1-k=m+1:=⟨1-k,by omega⟩
      rw[hm] at k4
      by_cases hok:d.toNat<128∨192≤d.toNat
      ·obtain rfl:=hbad1 (by rw[←k4];exact Ou _ _ _ _ (by rw[hgd];exact hok))
       (repeat'((conv=>whnf);first|refine Ab ?_|refine Ae ?_|refine Bv hy ?_|(with_reducible refine NInt.i64 ?_)|(refine Ah (fun hc hcP=> ?_) (fun hc hcP=> ?_)<;>try(exfalso;omega))|exact zE))
      ·rw[Mf _ _ _ _ (by rw[hgd];omega) (by rw[hgd];omega),hgd] at k4
       (repeat'((conv=>whnf);first|refine Ae ?_|refine Bv hy ?_|(with_reducible refine NInt.i64 ?_)|(refine Ah (fun hc hcP=> ?_) (fun hc hcP=> ?_)<;>try(exfalso;omega))));(all_goals(conv=>whnf))
       refine⟨(k+1,x*64+d.toNat-128),⟨by show 1≤k+1;omega,by show k+1≤_;omega,by show _<256^(k+1);rw[Nat.pow_succ];omega,by show Dq _ (1+1-(k+1)) _ _=_;rw[show 1+1-(k+1)=m by omega];exact k4⟩,by show 4-(k+1)<4-k;omega,?_⟩
       exact leQ
     ·obtain rfl:k=1+1:=by omega
      rw[Nat.sub_self] at k4
      have k4:some x=_:=k4
      have hO:=Fi x (by omega)
      by_cases hoc:Dc x=(c::r).take (1+1)
      ·obtain⟨a1,a2,a3,a4,a5⟩:=hgood x k4.symm hoc
       have hne:(!(Dc x==(c::r).take (1+1)))=false:=by rw[hoc,beq_self_eq_true];rfl
       (repeat'((conv=>whnf);first|refine zN ?_|refine Ae ?_|refine Aa hO rfl ?_|(refine H7 i (i+1+1) _ hcut ?_)|refine A8 Te x ?_|(with_reducible refine NInt.i64 ?_)|(with_reducible refine Gf ?_)|refine zF ?_));(all_goals(conv=>whnf))
       refine⟨(i+(1+1),pre++[x],(c::r).drop (1+1)),⟨by show _+List.length _=_;rw[Aw,Ag];omega,by show List.length _≤_;simp;omega,by show _=i+(1+1);rw[a2];omega,a1,a3,a4⟩,by show List.length _<List.length _;rw[Aw,Ag];omega,?_⟩
       exact leQ
      ·obtain rfl:=hbad2 x k4.symm hoc
       have hne:(!(Dc x==(c::r).take (1+1)))=true:=by rw[beq_eq_false_iff_ne.2 hoc];rfl
       (repeat'((conv=>whnf);first|refine zP ?_|refine Ae ?_|refine Aa hO rfl ?_|(refine H7 i (i+1+1) _ hcut ?_)|(with_reducible refine NInt.i64 ?_)|(with_reducible refine Gf ?_)|refine zF ?_|exact zE))
    ·subst hz
     have gl:=gl _ rfl
     (repeat'((conv=>whnf);first|refine zP ?_|refine Ae ?_|refine Bv hx ?_|(with_reducible refine NInt.i64 ?_)|(refine Ah (fun hc hcP=> ?_) (fun hc hcP=> ?_)<;>try(exfalso;omega))));(all_goals(conv=>whnf))
     refine Az (fun p:Nat×Nat=>1≤p.1∧p.1≤0+1∧p.2<256^p.1∧Dq (c::r) (0+1-p.1) p.1 p.2=Dq (c::r) 0 1 x0) (fun p=>4-p.1) (fun p=>⟨[(0,.d (.v (.string ⟨⟨s⟩⟩))),(4,C7 4 1 3 Te pre),(5,iv i),(6,iv p.2),(7,iv 0),(8,iv p.1)],[],[(4,(pre.length,1,3))]⟩) (1,x0) ⟨by simp,by simp,by simpa using hx0,rfl⟩ leQ ?_
     rintro⟨k,x⟩ ⟨k1,k2,k3,k4⟩
     simp only at k1 k2 k3 k4
     have k5:=Ww k3 (by omega)
     by_cases hk:k≤0
     ·omega
     ·obtain rfl:k=0+1:=by omega
      rw[Nat.sub_self] at k4
      have k4:some x=_:=k4
      have hO:=Fi x (by omega)
      by_cases hoc:Dc x=(c::r).take (0+1)
      ·obtain⟨a1,a2,a3,a4,a5⟩:=hgood x k4.symm hoc
       have hne:(!(Dc x==(c::r).take (0+1)))=false:=by rw[hoc,beq_self_eq_true];rfl
       (repeat'((conv=>whnf);first|refine zN ?_|refine Ae ?_|refine Aa hO rfl ?_|(refine H7 i (i+0+1) _ hcut ?_)|refine A8 Te x ?_|(with_reducible refine NInt.i64 ?_)|(with_reducible refine Gf ?_)|refine zF ?_));(all_goals(conv=>whnf))
       refine⟨(i+(0+1),pre++[x],(c::r).drop (0+1)),⟨by show _+List.length _=_;rw[Aw,Ag];omega,by show List.length _≤_;simp;omega,by show _=i+(0+1);rw[a2];omega,a1,a3,a4⟩,by show List.length _<List.length _;rw[Aw,Ag];omega,?_⟩
       exact leQ
      ·obtain rfl:=hbad2 x k4.symm hoc
       have hne:(!(Dc x==(c::r).take (0+1)))=true:=by rw[beq_eq_false_iff_ne.2 hoc];rfl
       (repeat'((conv=>whnf);first|refine zP ?_|refine Ae ?_|refine Aa hO rfl ?_|(refine H7 i (i+0+1) _ hcut ?_)|(with_reducible refine NInt.i64 ?_)|(with_reducible refine Gf ?_)|refine zF ?_|exact zE))
theorem sY:∀a:List Nat,a.length≤(a.flatMap enc).length
 |[]=>by simp
 |x::a=>by
  have:=(E2 x).1;have:=sY a
  rw[List.flatMap_cons,Aj,Ag];omega
theorem xW (l:List UInt8) (h:validD l=true):(rns l).length≤l.length:=by
 have:=sY (rns l);rw[G3 l h] at this;exact this
theorem Hx (k:Int) (s:List UInt8) (hs:s.length≤16777216):Ac Tryz.prog 144 [txA k s] (fun r=>r=bv (An k s)):=by
 have hP:=Z5 s hs
 have hW:=eC k
 cases hv:validD s
 ·rw[Z4 hv] at hP
  rw[Qe hv]
  clear hv
  refine acQ 34 Tryz.func144 rfl rfl fun _ _ _=> ?_
  (repeat'((conv=>whnf);first|refine Ab ?_|refine Aa hP rfl ?_|exact zE))
 ·rw[show Wv s= .tup [.d (xR true (rns s)),bv true] by unfold Wv;rw[if_pos hv]] at hP
  by_cases hk:Aq k<0
  ·rw[Jz hk]
   have g:decide (Aq k<0)=true:=decide_eq_true hk
   clear hv
   refine acQ 34 Tryz.func144 rfl rfl fun _ _ _=> ?_
   (repeat'((conv=>whnf);first|refine zP ?_|refine Ae ?_|refine Aa hP rfl ?_|refine Aa hW rfl ?_|exact zE))
  ·have g:decide (Aq k<0)=false:=decide_eq_false hk
   have hsm:=jA s hv
   have hyes:=Qf (k:=k) (l:=s) hv hk
   have hlen:=xW s hv
   have hno:∀m,m<(rns s).length→Bh k ((rns s).getD m 0)=false→An k s=false:=fun m=>Oy
   generalize An k s=q at hyes hno⊢
   generalize rns s=l at hP hsm hyes hno hlen⊢
   clear hv
   refine acQ 34 Tryz.func144 rfl rfl fun _ _ _=> ?_
   (repeat'((conv=>whnf);first|refine zN ?_|refine Ae ?_|refine Aa hP rfl ?_|refine Aa hW rfl ?_));(all_goals(conv=>whnf))
   refine Az (fun i:Nat=>i≤l.length∧∀m,m<i→Bh k (l.getD m 0)=true) (fun i=>l.length-i) (fun i=>⟨[(1,.ptr 1 0),(3,.d (xR true l)),(5,iv i)],[(1,[iv k,.d (.v (.string ⟨⟨s⟩⟩))])],[]⟩) 0 ⟨by omega,fun m h=>by omega⟩ leQ ?_
   rintro i ⟨h1,h2⟩
   by_cases hil:i<l.length
   ·have gl:decide ((i:Int)<(l.length:Int))=true:=decide_eq_true (by omega)
    obtain⟨n,hn⟩:∃n,l[i]?=some n:=⟨_,Ak hil⟩
    have hgd:l.getD i 0=n:=by rw[List.getD_eq_getElem?_getD,hn];rfl
    have hsn:=hsm i
    rw[hgd] at hsn
    have hH:=sV k (by omega) n (by omega)
    cases hh:Bh k n
    ·obtain rfl:=hno i hil (by rw[hgd];exact hh)
     rw[hh] at hH
     (repeat'((conv=>whnf);first|refine zP ?_|refine Ab ?_|refine NIdx.tab (fun _=>rfl) hn ?_|refine Aa hH rfl ?_|refine zF ?_|exact zE))
    ·rw[hh] at hH
     (repeat'((conv=>whnf);first|refine zP ?_|refine Ae ?_|refine NIdx.tab (fun _=>rfl) hn ?_|refine Aa hH rfl ?_|(with_reducible refine NInt.i64 ?_)|refine zF ?_));(all_goals(conv=>whnf))
     refine⟨i+1,⟨by omega,fun m hm=> ?_⟩,by omega,?_⟩
     ·by_cases hmi:m=i
      ·rw[hmi,hgd];exact hh
      ·exact h2 m (by omega)
     exact leQ
   ·have gl:decide ((i:Int)<(l.length:Int))=false:=decide_eq_false (by omega)
    obtain rfl:=hyes fun m hm=>h2 m (by omega)
    (repeat'((conv=>whnf);refine zN ?_));(all_goals(conv=>whnf))
    all_goals exact zE

end Go.Proofs.YtaoahmplnckhpaaGreatDoor
