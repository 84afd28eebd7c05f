/- MQ: the texts Oct Pts Val7 Dec7, one behind the other. No condition but what each lemma says. -/
import Derived.Test.YtaoahmplnckhpaaGreatDoorMI
set_option maxRecDepth 100000
set_option maxHeartbeats 16000000
namespace Go.Proofs.YtaoahmplnckhpaaGreatDoor
open Go.RowKit
theorem E0 (x:Nat) (hx:x≤1099511627776):Ab Tryz.prog 208 [iv x] (fun r=>r= .d (Af true (Dt x))):=by
 have g0:decide ((x:Int)<0)=false:=decide_eq_false (by omega)
 by_cases h1:x>1114111
 ·have g1:decide ((x:Int)>1114111)=true:=decide_eq_true (by omega)
  have hs:E5 x=false:=by rw[Bool.eq_false_iff,Ne,C3];omega
  rw[Dt,if_neg (by simp[hs])]
  clear hs
  refine acQ 68 Tryz.func208 rfl rfl fun _ _ _=> ?_
  (repeat'((conv=>whnf);first|refine zP ?_|refine zN ?_|refine Ac ?_|refine Ae ?_|exact zE))
 ·have g1:decide ((x:Int)>1114111)=false:=decide_eq_false (by omega)
  by_cases h2:x≥55296∧x<57344
  ·have g2:decide ((x:Int)≥55296)=true:=decide_eq_true (by omega)
   have g3:decide ((x:Int)<57344)=true:=decide_eq_true (by omega)
   have hs:E5 x=false:=by rw[Bool.eq_false_iff,Ne,C3];omega
   rw[Dt,if_neg (by simp[hs])]
   clear hs h2
   refine acQ 68 Tryz.func208 rfl rfl fun _ _ _=> ?_
   (repeat'((conv=>whnf);first|refine zP ?_|refine zN ?_|refine Ac ?_|refine Ae ?_|exact zE))
  ·have hs:E5 x=true:=by rw[C3];omega
   rw[Dt,if_pos hs]
   clear hs
   have e:enc x=(L3 x).map UInt8.ofNat:=rfl
   by_cases k1:x<128
   ·have g2:decide ((x:Int)≥55296)=false:=decide_eq_false (by omega)
    have g4:decide ((x:Int)<128)=true:=decide_eq_true (by omega)
    rw[L3,if_pos k1] at e
    rw[e]
    refine acQ 68 Tryz.func208 rfl rfl fun _ _ _=> ?_
    (repeat'((conv=>whnf);first|refine zP ?_|refine zN ?_|refine Ae ?_|(with_reducible refine Bp (x) ?_)));(all_goals(conv=>whnf))
    all_goals(refine Cf rfl (?_:_=_);try simp only[AV.dat])
    all_goals rfl
   ·have g4:decide ((x:Int)<128)=false:=decide_eq_false (by omega)
    rw[L3,if_neg k1] at e
    by_cases k2:x<2048
    ·have g2:decide ((x:Int)≥55296)=false:=decide_eq_false (by omega)
     have g5:decide ((x:Int)<2048)=true:=decide_eq_true (by omega)
     rw[if_pos k2] at e
     rw[e]
     refine acQ 68 Tryz.func208 rfl rfl fun _ _ _=> ?_
     (repeat'((conv=>whnf);first|refine zP ?_|refine zN ?_|refine Ae ?_|(with_reducible refine Bp (192+x/64) ?_)|(with_reducible refine Bp (128+x%64) ?_)|(with_reducible refine NInt.i64 ?_)|(with_reducible refine Bx ?_)|(with_reducible refine Bf ?_)|refine Au (by first|decide|omega|(simp only[Ag,List.length_nil];omega)) ?_));(all_goals(conv=>whnf))
     all_goals(refine Cf rfl (?_:_=_);try simp only[AV.dat])
     all_goals rfl
    ·have g5:decide ((x:Int)<2048)=false:=decide_eq_false (by omega)
     rw[if_neg k2] at e
     by_cases k3:x<65536
     ·have g6:decide ((x:Int)<65536)=true:=decide_eq_true (by omega)
      rw[if_pos k3] at e
      rw[e]
      by_cases d:x≥55296
      ·have g2:decide ((x:Int)≥55296)=true:=decide_eq_true (by omega)
       have g3:decide ((x:Int)<57344)=false:=decide_eq_false (by omega)
       refine acQ 68 Tryz.func208 rfl rfl fun _ _ _=> ?_
       (repeat'((conv=>whnf);first|refine zP ?_|refine zN ?_|refine Ac ?_|refine Ae ?_|(with_reducible refine Bp (224+x/4096) ?_)|(with_reducible refine Bp (128+x/64%64) ?_)|(with_reducible refine Bp (128+x%64) ?_)|(with_reducible refine NInt.i64 ?_)|(with_reducible refine Bx ?_)|(with_reducible refine Bf ?_)|refine Au (by first|decide|omega|(simp only[Ag,List.length_nil];omega)) ?_));(all_goals(conv=>whnf))
       all_goals(refine Cf rfl (?_:_=_);try simp only[AV.dat])
       all_goals rfl
      ·have g2:decide ((x:Int)≥55296)=false:=decide_eq_false (by omega)
       refine acQ 68 Tryz.func208 rfl rfl fun _ _ _=> ?_
       (repeat'((conv=>whnf);first|refine zP ?_|refine zN ?_|refine Ae ?_|(with_reducible refine Bp (224+x/4096) ?_)|(with_reducible refine Bp (128+x/64%64) ?_)|(with_reducible refine Bp (128+x%64) ?_)|(with_reducible refine NInt.i64 ?_)|(with_reducible refine Bx ?_)|(with_reducible refine Bf ?_)|refine Au (by first|decide|omega|(simp only[Ag,List.length_nil];omega)) ?_));(all_goals(conv=>whnf))
       all_goals(refine Cf rfl (?_:_=_);try simp only[AV.dat])
       all_goals rfl
     ·have g6:decide ((x:Int)<65536)=false:=decide_eq_false (by omega)
      have g2:decide ((x:Int)≥55296)=true:=decide_eq_true (by omega)
      have g3:decide ((x:Int)<57344)=false:=decide_eq_false (by omega)
      rw[if_neg k3] at e
      rw[e]
      refine acQ 68 Tryz.func208 rfl rfl fun _ _ _=> ?_
      (repeat'((conv=>whnf);first|refine zP ?_|refine zN ?_|refine Ac ?_|refine Ae ?_|(with_reducible refine Bp (240+x/262144) ?_)|(with_reducible refine Bp (128+x/4096%64) ?_)|(with_reducible refine Bp (128+x/64%64) ?_)|(with_reducible refine Bp (128+x%64) ?_)|(with_reducible refine NInt.i64 ?_)|(with_reducible refine Bx ?_)|(with_reducible refine Bf ?_)|refine Au (by first|decide|omega|(simp only[Ag,List.length_nil];omega)) ?_));(all_goals(conv=>whnf))
      all_goals(refine Cf rfl (?_:_=_);try simp only[AV.dat])
      all_goals rfl
theorem Pc (k:Int):Ab Tryz.prog 198 [iv k] (fun r=>r=iv (Ap k)):=by
 have hc:∀c:Int,k=c∨k≠c:=fun c=>by omega
 rcases hc 12 with rfl|n1
 ·refine acQ 15 Tryz.func198 rfl rfl fun _ _ _=> ?_
  (repeat'((conv=>whnf);refine Ac ?_));(all_goals(conv=>whnf))
  all_goals exact zE
 rcases hc 28 with rfl|n2
 ·refine acQ 15 Tryz.func198 rfl rfl fun _ _ _=> ?_
  (repeat'((conv=>whnf);first|refine Ac ?_|refine Ae ?_|exact zE))
 rcases hc 30 with rfl|n3
 ·refine acQ 15 Tryz.func198 rfl rfl fun _ _ _=> ?_
  (repeat'((conv=>whnf);first|refine Ac ?_|refine Ae ?_|exact zE))
 rcases hc 19 with rfl|n4
 ·refine acQ 15 Tryz.func198 rfl rfl fun _ _ _=> ?_
  (repeat'((conv=>whnf);first|refine Ac ?_|refine Ae ?_|exact zE))
 rcases hc 20 with rfl|n5
 ·refine acQ 15 Tryz.func198 rfl rfl fun _ _ _=> ?_
  (repeat'((conv=>whnf);first|refine Ac ?_|refine Ae ?_|exact zE))
 rcases hc 22 with rfl|n6
 ·refine acQ 15 Tryz.func198 rfl rfl fun _ _ _=> ?_
  (repeat'((conv=>whnf);first|refine Ac ?_|refine Ae ?_|exact zE))
 rcases hc 26 with rfl|n7
 ·refine acQ 15 Tryz.func198 rfl rfl fun _ _ _=> ?_
  (repeat'((conv=>whnf);first|refine Ac ?_|refine Ae ?_|exact zE))
 have g1:(k==12)=false:=beq_eq_false_iff_ne.2 n1
 have g2:(k==28)=false:=beq_eq_false_iff_ne.2 n2
 have g3:(k==30)=false:=beq_eq_false_iff_ne.2 n3
 have g4:(k==19)=false:=beq_eq_false_iff_ne.2 n4
 have g5:(k==20)=false:=beq_eq_false_iff_ne.2 n5
 have g6:(k==22)=false:=beq_eq_false_iff_ne.2 n6
 have g7:(k==26)=false:=beq_eq_false_iff_ne.2 n7
 have e:Ap k= -1:=by
  unfold Ap
  rw[if_neg n1,if_neg n2,if_neg n3,if_neg (by omega)]
 rw[e]
 refine acQ 15 Tryz.func198 rfl rfl fun _ _ _=> ?_
 (repeat'((conv=>whnf);refine zN ?_));(all_goals(conv=>whnf))
 all_goals exact zE
def Wi:List UInt8:=[32,39,40,41,43,44,45,46,47,58,61,63]
theorem FI {x i:Nat} {c:UInt8} (h:Wi[i]?=some c) (e:c.toNat=x):oth.contains x=true:=by
 have h1:∀c∈Wi,oth.contains c.toNat=true:=by decide+kernel
 rw[←e];exact h1 c (Bi h)
theorem KK {x:Nat} (h:∀(m:Nat) (c:UInt8),Wi[m]?=some c→c.toNat≠x):oth.contains x=false:=by
 rw[Bool.eq_false_iff];intro hc
 have h1:∀y∈oth,∃c∈Wi,c.toNat=y:=by decide+kernel
 obtain⟨c,hc',e⟩:=h1 x (by simpa using hc)
 obtain⟨m,hm⟩:=List.getElem?_of_mem hc'
 exact h m c hm e
theorem gB (k:Int) (hk:k=12∨k=28) (x:Nat) (hx:x≤1099511627776):Ab Tryz.prog 199 [iv k,iv x] (fun r=>r=bv (Bz k x)):=by
 have hO:=E0 x hx
 have e:Bz k x=decide (((Dt x).length:Int)>0):=by
  unfold Bz;rw[if_pos hk]
  cases hs:E5 x
  ·have:Dt x=[]:=by unfold Dt;rw[if_neg (by simp[hs])]
   rw[this];rfl
  ·obtain⟨m,hm⟩:=Pk x hs
   rw[hm];exact(decide_eq_true (by omega)).symm
 rw[e]
 rcases hk with rfl|rfl
 ·refine acQ 93 Tryz.func199 rfl rfl fun _ _ _=> ?_
  (repeat'((conv=>whnf);first|refine Ac ?_|refine Aa hO rfl ?_|exact zE))
 ·refine acQ 93 Tryz.func199 rfl rfl fun _ _ _=> ?_
  (repeat'((conv=>whnf);first|refine Ac ?_|refine Ae ?_|refine Aa hO rfl ?_|exact zE))
theorem yT (x:Nat) (hx:x≤1099511627776):Ab Tryz.prog 199 [iv 30,iv x] (fun r=>r=bv (Bz 30 x)):=by
 have hO:=E0 x hx
 have e:Bz 30 x=(E5 x&&decide (x<65536)):=rfl
 cases hs:E5 x
 ·have ho:Dt x=[]:=by unfold Dt;rw[if_neg (by simp[hs])]
  rw[e,hs,Bool.false_and]
  rw[ho] at hO
  clear hs
  refine acQ 93 Tryz.func199 rfl rfl fun _ _ _=> ?_
  (repeat'((conv=>whnf);first|refine Ac ?_|refine Ae ?_|refine Aa hO rfl ?_|exact zE))
 ·obtain⟨m,hm⟩:=Pk x hs
  have g:decide (((Dt x).length:Int)>0)=true:=decide_eq_true (by omega)
  rw[e,hs,Bool.true_and,show decide (x<65536)=decide ((x:Int)<65536) from decide_eq_decide.2 (by omega)]
  clear hs
  refine acQ 93 Tryz.func199 rfl rfl fun _ _ _=> ?_
  (repeat'((conv=>whnf);first|refine zP ?_|refine Ac ?_|refine Ae ?_|refine Aa hO rfl ?_|exact zE))
theorem yU (x:Nat):Ab Tryz.prog 199 [iv 22,iv x] (fun r=>r=bv (Bz 22 x)):=by
 have g:decide ((x:Int)≥0)=true:=decide_eq_true (by omega)
 rw[show Bz 22 x=decide ((x:Int)<128) from(show Bz 22 x=decide (x<128) from rfl).trans (decide_eq_decide.2 (by omega))]
 refine acQ 93 Tryz.func199 rfl rfl fun _ _ _=> ?_
 (repeat'((conv=>whnf);first|refine zP ?_|refine Ac ?_|refine Ae ?_|exact zE))
theorem yV (x:Nat):Ab Tryz.prog 199 [iv 26,iv x] (fun r=>r=bv (Bz 26 x)):=by
 have e:Bz 26 x=decide (32≤x∧x<127):=rfl
 by_cases d:x≥32
 ·have g:decide ((x:Int)≥32)=true:=decide_eq_true (by omega)
  rw[e,show decide (32≤x∧x<127)=decide ((x:Int)<127) from decide_eq_decide.2 (by omega)]
  refine acQ 93 Tryz.func199 rfl rfl fun _ _ _=> ?_
  (repeat'((conv=>whnf);first|refine zP ?_|refine Ac ?_|refine Ae ?_|exact zE))
 ·have g:decide ((x:Int)≥32)=false:=decide_eq_false (by omega)
  rw[e,show decide (32≤x∧x<127)=false from decide_eq_false (by omega)]
  refine acQ 93 Tryz.func199 rfl rfl fun _ _ _=> ?_
  (repeat'((conv=>whnf);first|refine zN ?_|refine Ac ?_|refine Ae ?_|exact zE))
theorem yW (x:Nat):Ab Tryz.prog 199 [iv 20,iv x] (fun r=>r=bv (Bz 20 x)):=by
 have e:Bz 20 x=decide ((32≤x∧x<127)∨(160≤x∧x<256)):=rfl
 by_cases d:x≥160
 ·have g1:decide ((x:Int)≥32)=true:=decide_eq_true (by omega)
  have g2:decide ((x:Int)<127)=false:=decide_eq_false (by omega)
  have g3:decide ((x:Int)≥160)=true:=decide_eq_true (by omega)
  rw[e,show decide ((32≤x∧x<127)∨(160≤x∧x<256))=decide ((x:Int)<256) from decide_eq_decide.2 (by omega)]
  refine acQ 93 Tryz.func199 rfl rfl fun _ _ _=> ?_
  (repeat'((conv=>whnf);first|refine zP ?_|refine zN ?_|refine Ac ?_|refine Ae ?_|exact zE))
 ·have g3:decide ((x:Int)≥160)=false:=decide_eq_false (by omega)
  by_cases d1:32≤x∧x<127
  ·have g1:decide ((x:Int)≥32)=true:=decide_eq_true (by omega)
   have g2:decide ((x:Int)<127)=true:=decide_eq_true (by omega)
   rw[e,show decide ((32≤x∧x<127)∨(160≤x∧x<256))=true from decide_eq_true (by omega)]
   refine acQ 93 Tryz.func199 rfl rfl fun _ _ _=> ?_
   (repeat'((conv=>whnf);first|refine zP ?_|refine Ac ?_|refine Ae ?_|exact zE))
  ·rw[e,show decide ((32≤x∧x<127)∨(160≤x∧x<256))=false from decide_eq_false (by omega)]
   by_cases d2:x≥32
   ·have g1:decide ((x:Int)≥32)=true:=decide_eq_true (by omega)
    have g2:decide ((x:Int)<127)=false:=decide_eq_false (by omega)
    refine acQ 93 Tryz.func199 rfl rfl fun _ _ _=> ?_
    (repeat'((conv=>whnf);first|refine zP ?_|refine zN ?_|refine Ac ?_|refine Ae ?_|exact zE))
   ·have g1:decide ((x:Int)≥32)=false:=decide_eq_false (by omega)
    refine acQ 93 Tryz.func199 rfl rfl fun _ _ _=> ?_
    (repeat'((conv=>whnf);first|refine zN ?_|refine Ac ?_|refine Ae ?_|exact zE))
theorem yX (x:Nat):Ab Tryz.prog 199 [iv 19,iv x] (fun r=>r=bv (Bz 19 x)):=by
 have e:Bz 19 x=(decide ((48≤x∧x<58)∨(65≤x∧x<91)∨(97≤x∧x<123))||oth.contains x):=rfl
 by_cases d:(48≤x∧x<58)∨(65≤x∧x<91)∨(97≤x∧x<123)
 ·rw[e,decide_eq_true d,Bool.true_or]
  refine acQ 93 Tryz.func199 rfl rfl fun _ _ _=> ?_
  (repeat'((conv=>whnf);first|refine Ac ?_|refine Ae ?_|(refine Ai (fun hc hcP=> ?_) (fun hc hcP=> ?_)<;>try(exfalso;omega))|exact zE))
 ·rw[e,decide_eq_false d,Bool.false_or]
  refine acQ 93 Tryz.func199 rfl rfl fun _ _ _=> ?_
  (repeat'((conv=>whnf);first|refine Ac ?_|refine Ae ?_|(refine Ai (fun hc hcP=> ?_) (fun hc hcP=> ?_)<;>try(exfalso;omega))));(all_goals(conv=>whnf))
  all_goals refine A1 (fun i:Nat=>i≤12∧∀(m:Nat) (c:UInt8),m<i→Wi[m]?=some c→c.toNat≠x) (fun i=>12-i) (fun i=>⟨[(1,iv x),(5,.d (.v (.string ⟨⟨Wi⟩⟩))),(6,iv i)],[],[]⟩) 0 ⟨by omega,fun m c h=>by omega⟩ leQ ?_
  all_goals
   intro i hi
   obtain⟨h1,h2⟩:=hi
   have hL:Wi.length=12:=rfl
   by_cases hil:i<12
   ·obtain⟨c,hx⟩:∃p,Wi[i]?=some p:=⟨_,An hil⟩
    have hcl:=c.toNat_lt
    have g:decide ((i:Int)<(Wi.length:Int))=true:=decide_eq_true (by omega)
    by_cases h3:c.toNat=x
    ·have g3:((c.toNat:Int)==(x:Int))=true:=beq_iff_eq.2 (by omega)
     rw[FI hx h3]
     (repeat'((conv=>whnf);first|refine zP ?_|refine A5 hx ?_|(with_reducible refine NInt.i64 ?_)|exact zE))
    ·have g3:((c.toNat:Int)==(x:Int))=false:=beq_eq_false_iff_ne.2 (by omega)
     (repeat'((conv=>whnf);first|refine zP ?_|refine zN ?_|refine A5 hx ?_|(with_reducible refine NInt.i64 ?_)));(all_goals(conv=>whnf))
     refine⟨i+1,⟨by omega,fun m c' hm hc'=> ?_⟩,by omega,?_⟩
     ·by_cases hmi:m=i
      ·subst hmi;rw[hx] at hc';cases hc';exact h3
      ·exact h2 m c' (by omega) hc'
     exact leQ
   ·have g:decide ((i:Int)<(Wi.length:Int))=false:=decide_eq_false (by omega)
    rw[KK fun m c hc=>h2 m c (by have:=(Az.1 hc).1;have:Wi.length=12:=rfl;omega) hc]
    (repeat'((conv=>whnf);refine zN ?_));(all_goals(conv=>whnf))
    all_goals exact zE
theorem yY (k:Int) (hk:0≤Ap k) (x:Nat) (hx:x≤1099511627776):Ab Tryz.prog 199 [iv k,iv x] (fun r=>r=bv (Bz k x)):=by
 rcases Dm k (by omega) with rfl|rfl|rfl|rfl|rfl|rfl|rfl
 ·exact gB 12 (.inl rfl) x hx
 ·exact yX x
 ·exact yW x
 ·exact yU x
 ·exact yV x
 ·exact gB 28 (.inr rfl) x hx
 ·exact yT x hx
end Go.Proofs.YtaoahmplnckhpaaGreatDoor
namespace Go.Proofs.YtaoahmplnckhpaaGreatDoor
open Go.RowKit
open Go.Lib (validD decodeL)
def Xm (n:Nat):List D:=[.v (.int .i64 n)]
def sY (t:Bool) (a:List Nat):D:=Fp t 1 Xm a
theorem FJ {b:Nat} (h1:240≤b) (h2:b<248):E6 b=some (3,b-240):=by unfold E6;rw[if_pos (by omega)]
theorem FK {b:Nat} (h1:224≤b) (h2:b<240):E6 b=some (2,b-224):=by unfold E6;rw[if_neg (by omega),if_pos (by omega)]
theorem FL {b:Nat} (h1:192≤b) (h2:b<224):E6 b=some (1,b-192):=by unfold E6;rw[if_neg (by omega),if_neg (by omega),if_pos (by omega)]
theorem FM {b:Nat} (h2:b<128):E6 b=some (0,b):=by unfold E6;rw[if_neg (by omega),if_neg (by omega),if_neg (by omega),if_neg (by omega)]
theorem yZ {b:Nat} (h:(128≤b∧b<192)∨248≤b):E6 b=none:=by unfold E6;rw[if_neg (by omega),if_neg (by omega),if_neg (by omega),if_pos (by omega)]
theorem Pd (t:List UInt8) (n k x:Nat) (h0:¬(t.getD k 0).toNat<128) (h1:¬192≤(t.getD k 0).toNat):
 Ei t (n+1) k x=Ei t n (k+1) (x*64+(t.getD k 0).toNat-128):=by
 rw[Ei,if_neg (by omega)]
theorem R0 (t:List UInt8) (n k x:Nat) (h:(t.getD k 0).toNat<128∨192≤(t.getD k 0).toNat):Ei t (n+1) k x=none:=by
 rw[Ei,if_pos h]
theorem lM {t:List UInt8} (h:E6 (t.getD 0 0).toNat=none):Gv t=none:=by unfold Gv;rw[h]
theorem gC {t:List UInt8} {n x:Nat} (h:E6 (t.getD 0 0).toNat=some (n,x)) (hn:t.length≤n):Gv t=none:=by
 unfold Gv;rw[h];simp only[];rw[if_pos hn]
theorem lN {t:List UInt8} {n x:Nat} (h:E6 (t.getD 0 0).toNat=some (n,x)) (hn:¬t.length≤n) (hc:Ei t n 1 x=none):Gv t=none:=by
 unfold Gv;rw[h];simp only[];rw[if_neg hn,hc]
theorem sZ {t:List UInt8} {n x y:Nat} (h:E6 (t.getD 0 0).toNat=some (n,x)) (hn:¬t.length≤n) (hc:Ei t n 1 x=some y) (ho:Dt y≠t.take (n+1)):Gv t=none:=by
 unfold Gv;rw[h];simp only[];rw[if_neg hn,hc];simp only[];rw[if_neg ho]
theorem tA {t:List UInt8} {n x y:Nat} (h:E6 (t.getD 0 0).toNat=some (n,x)) (hn:¬t.length≤n) (hc:Ei t n 1 x=some y) (ho:Dt y=t.take (n+1)):Gv t=some (y,n+1):=by
 unfold Gv;rw[h];simp only[];rw[if_neg hn,hc];simp only[];rw[if_pos ho]
theorem tB {s:List UInt8} {pre:List Nat} {t:List UInt8} {X n:Nat} (hst:s=pre.flatMap enc++t) (hv:validD t=validD s)
 (hr:validD s=true→rns s=pre++rns t) (ht:t≠[]) (hs:Gv t=some (X,n)):
 s=(pre++[X]).flatMap enc++t.drop n∧((pre++[X]).flatMap enc).length=(pre.flatMap enc).length+n∧validD (t.drop n)=validD s∧
  (validD s=true→rns s=(pre++[X])++rns (t.drop n))∧1≤n:=by
 obtain⟨h1,h2,h3⟩:=Of ht hs
 obtain⟨h4,h5⟩:=Xq X h1 (t.drop n)
 rw[←h2] at h4 h5
 refine⟨?_,?_,?_,?_,?_⟩
 ·rw[hst,List.flatMap_append]
  simp only[List.flatMap_cons,List.flatMap_nil,List.append_nil,List.append_assoc]
  rw[←h2]
 ·rw[List.flatMap_append]
  simp only[List.flatMap_cons,List.flatMap_nil,List.append_nil,Ak]
  rw[h3]
 ·rw[←h4,hv]
 ·intro hV
  rw[hr hV,h5]
  simp
 ·rw[h3];exact(Gg X).1
def Wj (s:List UInt8):AV:=if validD s then .tup [.d (sY true (rns s)),bv true] else .tup [A3,bv false]
theorem gD {s:List UInt8} (h:validD s=false):Wj s= .tup [A3,bv false]:=by unfold Wj;rw[h];rfl
theorem zA (c:Nat):(128≤c∧c<192)∨248≤c∨(240≤c∧c<248)∨(224≤c∧c<240)∨(192≤c∧c<224)∨c<128:=by omega
theorem Wk {k x:Nat} (h:x<256^k) (hk:k≤4):x<4294967296:=Nat.lt_of_lt_of_le h (Nat.pow_le_pow_right (n:=256) (by omega) hk)
theorem Sx (s:List UInt8) (hs:s.length≤16777216):Ab Tryz.prog 197 [.d (.v (.string ⟨⟨s⟩⟩))] (fun r=>r=Wj s):=by
 refine acQ 92 Tryz.func197 rfl rfl fun _ _ _=> ?_
 (all_goals(conv=>whnf))
 refine Bb [.s 4 1 3] (fun p:Nat×List Nat×List UInt8=>p.1+p.2.2.length=s.length∧p.2.1.length≤p.1∧(p.2.1.flatMap enc).length=p.1∧s=p.2.1.flatMap enc++p.2.2∧validD p.2.2=validD s∧(validD s=true→rns s=p.2.1++rns p.2.2)) (fun p=>p.2.2.length) (fun p=>⟨[(0,.d (.v (.string ⟨⟨s⟩⟩))),(4,Bw 4 1 3 Xm p.2.1),(5,iv p.1)],[],[(4,(p.2.1.length,1,3))]⟩) (0,[],s) ⟨by simp,by simp,by simp,by simp,rfl,fun _=>rfl⟩ leQ ?_
 rintro⟨i,pre,t⟩ ⟨h1,h2,h3,h4,h5,h6⟩
 simp only at h1 h2 h3 h4 h5 h6
 cases t with
 |nil=>
  have hv:validD s=true:=by rw[←h5];rfl
  have hR:=h6 hv
  rw[Zd,List.append_nil] at hR
  have g:decide ((i:Int)<(s.length:Int))=false:=decide_eq_false (by simp at h1;omega)
  rw[show Wj s= .tup [.d (sY true pre),bv true] by unfold Wj;rw[if_pos hv,hR]]
  (repeat'((conv=>whnf);refine zN ?_));(all_goals(conv=>whnf))
  all_goals exact zE
 |cons c r=>
  rw[Ag] at h1
  have hg:∀k,s[i+k]?=(c::r)[k]?:=fun k=>by
   rw[h4,List.getElem?_append_right (by omega),h3];congr 1;omega
  have hx:s[i]?=some c:=hg 0
  have hcl:=c.toNat_lt
  have hc0:((c::r).getD 0 0)=c:=rfl
  have g:decide ((i:Int)<(s.length:Int))=true:=decide_eq_true (by omega)
  have hbad:Gv (c::r)=none→Wj s= .tup [A3,bv false]:=fun h=>gD (by rw[←h5];exact pN _ (by simp) h)
  generalize hq:Wj s=q at hbad⊢
  have hlead:((128≤c.toNat∧c.toNat<192)∨248≤c.toNat)∨∃(n x0:Nat) (z:Int),E6 c.toNat=some (n,x0)∧z=n∧x0<256∧n≤3∧((n=3∧240≤c.toNat∧c.toNat<248∧x0=c.toNat-240)∨(n=2∧224≤c.toNat∧c.toNat<240∧x0=c.toNat-224)∨(n=1∧192≤c.toNat∧c.toNat<224∧x0=c.toNat-192)∨(n=0∧c.toNat<128∧x0=c.toNat)):=by
   rcases zA c.toNat with h|h|h|h|h|h
   ·exact .inl (.inl h)
   ·exact .inl (.inr h)
   ·exact .inr ⟨3,c.toNat-240,3,FJ h.1 h.2,rfl,by omega,by omega,.inl ⟨rfl,h.1,h.2,rfl⟩⟩
   ·exact .inr ⟨2,c.toNat-224,2,FK h.1 h.2,rfl,by omega,by omega,.inr (.inl ⟨rfl,h.1,h.2,rfl⟩)⟩
   ·exact .inr ⟨1,c.toNat-192,1,FL h.1 h.2,rfl,by omega,by omega,.inr (.inr (.inl ⟨rfl,h.1,h.2,rfl⟩))⟩
   ·exact .inr ⟨0,c.toNat,0,FM h,rfl,by omega,by omega,.inr (.inr (.inr ⟨rfl,h,rfl⟩))⟩
  rcases hlead with hl|⟨n,x0,z,hl,hz,hx0,hn3,hcase⟩
  ·obtain rfl:=hbad (lM (yZ hl))
   (repeat'((conv=>whnf);first|refine zP ?_|refine Ac ?_|refine Ae ?_|refine A5 hx ?_|(with_reducible refine NInt.i64 ?_)|(refine Ai (fun hc hcP=> ?_) (fun hc hcP=> ?_)<;>try(exfalso;omega))|exact zE))
  ·by_cases hlen:r.length<n
   ·obtain rfl:=hbad (gC hl (by rw[Ag];omega))
    rcases hcase with⟨rfl,c1,c2,c3⟩|⟨rfl,c1,c2,c3⟩|⟨rfl,c1,c2,c3⟩|⟨rfl,c1,c3⟩
    all_goals(repeat'((conv=>whnf);first|refine zP ?_|refine Ac ?_|refine Ae ?_|refine A5 hx ?_|(with_reducible refine NInt.i64 ?_)|(refine Ai (fun hc hcP=> ?_) (fun hc hcP=> ?_)<;>try(exfalso;omega))|exact zE))
   ·have gl:∀z:Int,z=(n:Int)→decide ((i:Int)+z≥(s.length:Int))=false:=fun z hz=>decide_eq_false (by omega)
    have hround:∀(W:Nat),W=W:=fun _=>rfl
    have hbad1:Ei (c::r) n 1 x0=none→q= .tup [A3,bv false]:=fun h=>hbad (lN hl (by rw[Ag];omega) h)
    have hbad2:∀X,Ei (c::r) n 1 x0=some X→Dt X≠(c::r).take (n+1)→q= .tup [A3,bv false]:=fun X a b=>hbad (sZ hl (by rw[Ag];omega) a b)
    have hgood:∀X,Ei (c::r) n 1 x0=some X→Dt X=(c::r).take (n+1)→_:=fun X a b=>tB h4 h5 h6 (by simp) (tA hl (by rw[Ag];omega) a b)
    have hcut:(s.drop i).take (i+n+1-i)=(c::r).take (n+1):=by
     rw[h4,List.drop_append_of_le_length (by omega),List.drop_of_length_le (by omega),List.nil_append];congr 1;omega
    rcases hcase with⟨rfl,c1,c2,c3⟩|⟨rfl,c1,c2,c3⟩|⟨rfl,c1,c2,c3⟩|⟨rfl,c1,c3⟩
    ·subst hz
     have gl:=gl _ rfl
     (repeat'((conv=>whnf);first|refine zP ?_|refine Ac ?_|refine A5 hx ?_|(with_reducible refine NInt.i64 ?_)|(refine Ai (fun hc hcP=> ?_) (fun hc hcP=> ?_)<;>try(exfalso;omega))));(all_goals(conv=>whnf))
     refine A1 (fun p:Nat×Nat=>1≤p.1∧p.1≤3+1∧p.2<256^p.1∧Ei (c::r) (3+1-p.1) p.1 p.2=Ei (c::r) 3 1 x0) (fun p=>4-p.1) (fun p=>⟨[(0,.d (.v (.string ⟨⟨s⟩⟩))),(4,Bw 4 1 3 Xm pre),(5,iv i),(6,iv p.2),(7,iv 3),(8,iv p.1)],[],[(4,(pre.length,1,3))]⟩) (1,x0) ⟨by simp,by simp,by simpa using hx0,rfl⟩ leQ ?_
     rintro⟨k,x⟩ ⟨k1,k2,k3,k4⟩
     simp only at k1 k2 k3 k4
     have k5:=Wk k3 (by omega)
     by_cases hk:k≤3
     ·obtain⟨d,hd⟩:∃d,(c::r)[k]?=some d:=⟨_,An (by rw[Ag];omega)⟩
      have hy:=(hg k).trans hd
      have hdl:=d.toNat_lt
      have hgd:(c::r).getD k 0=d:=by rw[List.getD_eq_getElem?_getD,hd];rfl
      obtain⟨m,hm⟩:∃m,3+1-k=m+1:=⟨3-k,by omega⟩
      rw[hm] at k4
      by_cases hok:d.toNat<128∨192≤d.toNat
      ·obtain rfl:=hbad1 (by rw[←k4];exact R0 _ _ _ _ (by rw[hgd];exact hok))
       (repeat'((conv=>whnf);first|refine Ac ?_|refine Ae ?_|refine A5 hy ?_|(with_reducible refine NInt.i64 ?_)|(refine Ai (fun hc hcP=> ?_) (fun hc hcP=> ?_)<;>try(exfalso;omega))|exact zE))
      ·rw[Pd _ _ _ _ (by rw[hgd];omega) (by rw[hgd];omega),hgd] at k4
       (repeat'((conv=>whnf);first|refine Ae ?_|refine A5 hy ?_|(with_reducible refine NInt.i64 ?_)|(refine Ai (fun hc hcP=> ?_) (fun hc hcP=> ?_)<;>try(exfalso;omega))));(all_goals(conv=>whnf))
       refine⟨(k+1,x*64+d.toNat-128),⟨by show 1≤k+1;omega,by show k+1≤_;omega,by show _<256^(k+1);rw[Nat.pow_succ];omega,by show Ei _ (3+1-(k+1)) _ _=_;rw[show 3+1-(k+1)=m by omega];exact k4⟩,by show 4-(k+1)<4-k;omega,?_⟩
       exact leQ
     ·obtain rfl:k=3+1:=by omega
      rw[Nat.sub_self] at k4
      have k4:some x=_:=k4
      have hO:=E0 x (by omega)
      by_cases hoc:Dt x=(c::r).take (3+1)
      ·obtain⟨a1,a2,a3,a4,a5⟩:=hgood x k4.symm hoc
       have hne:(!(Dt x==(c::r).take (3+1)))=false:=by rw[hoc,beq_self_eq_true];rfl
       (repeat'((conv=>whnf);first|refine zN ?_|refine Ae ?_|refine Aa hO rfl ?_|(refine J5 i (i+3+1) _ hcut ?_)|refine A4 Xm x ?_|(with_reducible refine NInt.i64 ?_)|(with_reducible refine E1 ?_)|refine zF ?_));(all_goals(conv=>whnf))
       refine⟨(i+(3+1),pre++[x],(c::r).drop (3+1)),⟨by show _+List.length _=_;rw[Ax,Ag];omega,by show List.length _≤_;simp;omega,by show _=i+(3+1);rw[a2];omega,a1,a3,a4⟩,by show List.length _<List.length _;rw[Ax,Ag];omega,?_⟩
       exact leQ
      ·obtain rfl:=hbad2 x k4.symm hoc
       have hne:(!(Dt x==(c::r).take (3+1)))=true:=by rw[beq_eq_false_iff_ne.2 hoc];rfl
       (repeat'((conv=>whnf);first|refine zP ?_|refine Ae ?_|refine Aa hO rfl ?_|(refine J5 i (i+3+1) _ hcut ?_)|(with_reducible refine NInt.i64 ?_)|(with_reducible refine E1 ?_)|refine zF ?_|exact zE))
    ·subst hz
     have gl:=gl _ rfl
     (repeat'((conv=>whnf);first|refine zP ?_|refine Ac ?_|refine Ae ?_|refine A5 hx ?_|(with_reducible refine NInt.i64 ?_)|(refine Ai (fun hc hcP=> ?_) (fun hc hcP=> ?_)<;>try(exfalso;omega))));(all_goals(conv=>whnf))
     refine A1 (fun p:Nat×Nat=>1≤p.1∧p.1≤2+1∧p.2<256^p.1∧Ei (c::r) (2+1-p.1) p.1 p.2=Ei (c::r) 2 1 x0) (fun p=>4-p.1) (fun p=>⟨[(0,.d (.v (.string ⟨⟨s⟩⟩))),(4,Bw 4 1 3 Xm pre),(5,iv i),(6,iv p.2),(7,iv 2),(8,iv p.1)],[],[(4,(pre.length,1,3))]⟩) (1,x0) ⟨by simp,by simp,by simpa using hx0,rfl⟩ leQ ?_
     rintro⟨k,x⟩ ⟨k1,k2,k3,k4⟩
     simp only at k1 k2 k3 k4
     have k5:=Wk k3 (by omega)
     by_cases hk:k≤2
     ·obtain⟨d,hd⟩:∃d,(c::r)[k]?=some d:=⟨_,An (by rw[Ag];omega)⟩
      have hy:=(hg k).trans hd
      have hdl:=d.toNat_lt
      have hgd:(c::r).getD k 0=d:=by rw[List.getD_eq_getElem?_getD,hd];rfl
      obtain⟨m,hm⟩:∃m,2+1-k=m+1:=⟨2-k,by omega⟩
      rw[hm] at k4
      by_cases hok:d.toNat<128∨192≤d.toNat
      ·obtain rfl:=hbad1 (by rw[←k4];exact R0 _ _ _ _ (by rw[hgd];exact hok))
       (repeat'((conv=>whnf);first|refine Ac ?_|refine Ae ?_|refine A5 hy ?_|(with_reducible refine NInt.i64 ?_)|(refine Ai (fun hc hcP=> ?_) (fun hc hcP=> ?_)<;>try(exfalso;omega))|exact zE))
      ·rw[Pd _ _ _ _ (by rw[hgd];omega) (by rw[hgd];omega),hgd] at k4
       (repeat'((conv=>whnf);first|refine Ae ?_|refine A5 hy ?_|(with_reducible refine NInt.i64 ?_)|(refine Ai (fun hc hcP=> ?_) (fun hc hcP=> ?_)<;>try(exfalso;omega))));(all_goals(conv=>whnf))
       refine⟨(k+1,x*64+d.toNat-128),⟨by show 1≤k+1;omega,by show k+1≤_;omega,by show _<256^(k+1);rw[Nat.pow_succ];omega,by show Ei _ (2+1-(k+1)) _ _=_;rw[show 2+1-(k+1)=m by omega];exact k4⟩,by show 4-(k+1)<4-k;omega,?_⟩
       exact leQ
     ·obtain rfl:k=2+1:=by omega
      rw[Nat.sub_self] at k4
      have k4:some x=_:=k4
      have hO:=E0 x (by omega)
      by_cases hoc:Dt x=(c::r).take (2+1)
      ·obtain⟨a1,a2,a3,a4,a5⟩:=hgood x k4.symm hoc
       have hne:(!(Dt x==(c::r).take (2+1)))=false:=by rw[hoc,beq_self_eq_true];rfl
       (repeat'((conv=>whnf);first|refine zN ?_|refine Ae ?_|refine Aa hO rfl ?_|(refine J5 i (i+2+1) _ hcut ?_)|refine A4 Xm x ?_|(with_reducible refine NInt.i64 ?_)|(with_reducible refine E1 ?_)|refine zF ?_));(all_goals(conv=>whnf))
       refine⟨(i+(2+1),pre++[x],(c::r).drop (2+1)),⟨by show _+List.length _=_;rw[Ax,Ag];omega,by show List.length _≤_;simp;omega,by show _=i+(2+1);rw[a2];omega,a1,a3,a4⟩,by show List.length _<List.length _;rw[Ax,Ag];omega,?_⟩
       exact leQ
      ·obtain rfl:=hbad2 x k4.symm hoc
       have hne:(!(Dt x==(c::r).take (2+1)))=true:=by rw[beq_eq_false_iff_ne.2 hoc];rfl
       (repeat'((conv=>whnf);first|refine zP ?_|refine Ae ?_|refine Aa hO rfl ?_|(refine J5 i (i+2+1) _ hcut ?_)|(with_reducible refine NInt.i64 ?_)|(with_reducible refine E1 ?_)|refine zF ?_|exact zE))
    ·subst hz
     have gl:=gl _ rfl
     (repeat'((conv=>whnf);first|refine zP ?_|refine Ac ?_|refine Ae ?_|refine A5 hx ?_|(with_reducible refine NInt.i64 ?_)|(refine Ai (fun hc hcP=> ?_) (fun hc hcP=> ?_)<;>try(exfalso;omega))));(all_goals(conv=>whnf))
     refine A1 (fun p:Nat×Nat=>1≤p.1∧p.1≤1+1∧p.2<256^p.1∧Ei (c::r) (1+1-p.1) p.1 p.2=Ei (c::r) 1 1 x0) (fun p=>4-p.1) (fun p=>⟨[(0,.d (.v (.string ⟨⟨s⟩⟩))),(4,Bw 4 1 3 Xm pre),(5,iv i),(6,iv p.2),(7,iv 1),(8,iv p.1)],[],[(4,(pre.length,1,3))]⟩) (1,x0) ⟨by simp,by simp,by simpa using hx0,rfl⟩ leQ ?_
     rintro⟨k,x⟩ ⟨k1,k2,k3,k4⟩
     simp only at k1 k2 k3 k4
     have k5:=Wk k3 (by omega)
     by_cases hk:k≤1
     ·obtain⟨d,hd⟩:∃d,(c::r)[k]?=some d:=⟨_,An (by rw[Ag];omega)⟩
      have hy:=(hg k).trans hd
      have hdl:=d.toNat_lt
      have hgd:(c::r).getD k 0=d:=by rw[List.getD_eq_getElem?_getD,hd];rfl
      obtain⟨m,hm⟩:∃m,1+1-k=m+1:=⟨1-k,by omega⟩
      rw[hm] at k4
      by_cases hok:d.toNat<128∨192≤d.toNat
      ·obtain rfl:=hbad1 (by rw[←k4];exact R0 _ _ _ _ (by rw[hgd];exact hok))
       (repeat'((conv=>whnf);first|refine Ac ?_|refine Ae ?_|refine A5 hy ?_|(with_reducible refine NInt.i64 ?_)|(refine Ai (fun hc hcP=> ?_) (fun hc hcP=> ?_)<;>try(exfalso;omega))|exact zE))
      ·rw[Pd _ _ _ _ (by rw[hgd];omega) (by rw[hgd];omega),hgd] at k4
       (repeat'((conv=>whnf);first|refine Ae ?_|refine A5 hy ?_|(with_reducible refine NInt.i64 ?_)|(refine Ai (fun hc hcP=> ?_) (fun hc hcP=> ?_)<;>try(exfalso;omega))));(all_goals(conv=>whnf))
       refine⟨(k+1,x*64+d.toNat-128),⟨by show 1≤k+1;omega,by show k+1≤_;omega,by show _<256^(k+1);rw[Nat.pow_succ];omega,by show Ei _ (1+1-(k+1)) _ _=_;rw[show 1+1-(k+1)=m by omega];exact k4⟩,by show 4-(k+1)<4-k;omega,?_⟩
       exact leQ
     ·obtain rfl:k=1+1:=by omega
      rw[Nat.sub_self] at k4
      have k4:some x=_:=k4
      have hO:=E0 x (by omega)
      by_cases hoc:Dt x=(c::r).take (1+1)
      ·obtain⟨a1,a2,a3,a4,a5⟩:=hgood x k4.symm hoc
       have hne:(!(Dt x==(c::r).take (1+1)))=false:=by rw[hoc,beq_self_eq_true];rfl
       (repeat'((conv=>whnf);first|refine zN ?_|refine Ae ?_|refine Aa hO rfl ?_|(refine J5 i (i+1+1) _ hcut ?_)|refine A4 Xm x ?_|(with_reducible refine NInt.i64 ?_)|(with_reducible refine E1 ?_)|refine zF ?_));(all_goals(conv=>whnf))
       refine⟨(i+(1+1),pre++[x],(c::r).drop (1+1)),⟨by show _+List.length _=_;rw[Ax,Ag];omega,by show List.length _≤_;simp;omega,by show _=i+(1+1);rw[a2];omega,a1,a3,a4⟩,by show List.length _<List.length _;rw[Ax,Ag];omega,?_⟩
       exact leQ
      ·obtain rfl:=hbad2 x k4.symm hoc
       have hne:(!(Dt x==(c::r).take (1+1)))=true:=by rw[beq_eq_false_iff_ne.2 hoc];rfl
       (repeat'((conv=>whnf);first|refine zP ?_|refine Ae ?_|refine Aa hO rfl ?_|(refine J5 i (i+1+1) _ hcut ?_)|(with_reducible refine NInt.i64 ?_)|(with_reducible refine E1 ?_)|refine zF ?_|exact zE))
    ·subst hz
     have gl:=gl _ rfl
     (repeat'((conv=>whnf);first|refine zP ?_|refine Ae ?_|refine A5 hx ?_|(with_reducible refine NInt.i64 ?_)|(refine Ai (fun hc hcP=> ?_) (fun hc hcP=> ?_)<;>try(exfalso;omega))));(all_goals(conv=>whnf))
     refine A1 (fun p:Nat×Nat=>1≤p.1∧p.1≤0+1∧p.2<256^p.1∧Ei (c::r) (0+1-p.1) p.1 p.2=Ei (c::r) 0 1 x0) (fun p=>4-p.1) (fun p=>⟨[(0,.d (.v (.string ⟨⟨s⟩⟩))),(4,Bw 4 1 3 Xm pre),(5,iv i),(6,iv p.2),(7,iv 0),(8,iv p.1)],[],[(4,(pre.length,1,3))]⟩) (1,x0) ⟨by simp,by simp,by simpa using hx0,rfl⟩ leQ ?_
     rintro⟨k,x⟩ ⟨k1,k2,k3,k4⟩
     simp only at k1 k2 k3 k4
     have k5:=Wk k3 (by omega)
     by_cases hk:k≤0
     ·omega
     ·obtain rfl:k=0+1:=by omega
      rw[Nat.sub_self] at k4
      have k4:some x=_:=k4
      have hO:=E0 x (by omega)
      by_cases hoc:Dt x=(c::r).take (0+1)
      ·obtain⟨a1,a2,a3,a4,a5⟩:=hgood x k4.symm hoc
       have hne:(!(Dt x==(c::r).take (0+1)))=false:=by rw[hoc,beq_self_eq_true];rfl
       (repeat'((conv=>whnf);first|refine zN ?_|refine Ae ?_|refine Aa hO rfl ?_|(refine J5 i (i+0+1) _ hcut ?_)|refine A4 Xm x ?_|(with_reducible refine NInt.i64 ?_)|(with_reducible refine E1 ?_)|refine zF ?_));(all_goals(conv=>whnf))
       refine⟨(i+(0+1),pre++[x],(c::r).drop (0+1)),⟨by show _+List.length _=_;rw[Ax,Ag];omega,by show List.length _≤_;simp;omega,by show _=i+(0+1);rw[a2];omega,a1,a3,a4⟩,by show List.length _<List.length _;rw[Ax,Ag];omega,?_⟩
       exact leQ
      ·obtain rfl:=hbad2 x k4.symm hoc
       have hne:(!(Dt x==(c::r).take (0+1)))=true:=by rw[beq_eq_false_iff_ne.2 hoc];rfl
       (repeat'((conv=>whnf);first|refine zP ?_|refine Ae ?_|refine Aa hO rfl ?_|(refine J5 i (i+0+1) _ hcut ?_)|(with_reducible refine NInt.i64 ?_)|(with_reducible refine E1 ?_)|refine zF ?_|exact zE))
theorem zB:∀a:List Nat,a.length≤(a.flatMap enc).length
 |[]=>by simp
 |x::a=>by
  have:=(Gg x).1;have:=zB a
  rw[List.flatMap_cons,Ak,Ag];omega
theorem Qp (l:List UInt8) (h:validD l=true):(rns l).length≤l.length:=by
 have:=zB (rns l);rw[Iu l h] at this;exact this
theorem H4 (k:Int) (s:List UInt8) (hs:s.length≤16777216):Ab Tryz.prog 144 [txA k s] (fun r=>r=bv (Al k s)):=by
 have hP:=Sx s hs
 have hW:=Pc k
 cases hv:validD s
 ·rw[gD hv] at hP
  rw[T5 hv]
  clear hv
  refine acQ 34 Tryz.func144 rfl rfl fun _ _ _=> ?_
  (repeat'((conv=>whnf);first|refine Ac ?_|refine Aa hP rfl ?_|exact zE))
 ·rw[show Wj s= .tup [.d (sY true (rns s)),bv true] by unfold Wj;rw[if_pos hv]] at hP
  by_cases hk:Ap k<0
  ·rw[L8 hk]
   have g:decide (Ap k<0)=true:=decide_eq_true hk
   clear hv
   refine acQ 34 Tryz.func144 rfl rfl fun _ _ _=> ?_
   (repeat'((conv=>whnf);first|refine zP ?_|refine Ae ?_|refine Aa hP rfl ?_|refine Aa hW rfl ?_|exact zE))
  ·have g:decide (Ap k<0)=false:=decide_eq_false hk
   have hsm:=pP s hv
   have hyes:=T6 (k:=k) (l:=s) hv hk
   have hlen:=Qp s hv
   have hno:∀m,m<(rns s).length→Bz k ((rns s).getD m 0)=false→Al k s=false:=fun m=>Sb
   generalize Al k s=q at hyes hno⊢
   generalize rns s=l at hP hsm hyes hno hlen⊢
   clear hv
   refine acQ 34 Tryz.func144 rfl rfl fun _ _ _=> ?_
   (repeat'((conv=>whnf);first|refine zN ?_|refine Ae ?_|refine Aa hP rfl ?_|refine Aa hW rfl ?_));(all_goals(conv=>whnf))
   refine A1 (fun i:Nat=>i≤l.length∧∀m,m<i→Bz k (l.getD m 0)=true) (fun i=>l.length-i) (fun i=>⟨[(1,.ptr 1 0),(3,.d (sY true l)),(5,iv i)],[(1,[iv k,.d (.v (.string ⟨⟨s⟩⟩))])],[]⟩) 0 ⟨by omega,fun m h=>by omega⟩ leQ ?_
   rintro i ⟨h1,h2⟩
   by_cases hil:i<l.length
   ·have gl:decide ((i:Int)<(l.length:Int))=true:=decide_eq_true (by omega)
    obtain⟨n,hn⟩:∃n,l[i]?=some n:=⟨_,An hil⟩
    have hgd:l.getD i 0=n:=by rw[List.getD_eq_getElem?_getD,hn];rfl
    have hsn:=hsm i
    rw[hgd] at hsn
    have hH:=yY k (by omega) n (by omega)
    cases hh:Bz k n
    ·obtain rfl:=hno i hil (by rw[hgd];exact hh)
     rw[hh] at hH
     (repeat'((conv=>whnf);first|refine zP ?_|refine Ac ?_|refine NIdx.tab (fun _=>rfl) hn ?_|refine Aa hH rfl ?_|refine zF ?_|exact zE))
    ·rw[hh] at hH
     (repeat'((conv=>whnf);first|refine zP ?_|refine Ae ?_|refine NIdx.tab (fun _=>rfl) hn ?_|refine Aa hH rfl ?_|(with_reducible refine NInt.i64 ?_)|refine zF ?_));(all_goals(conv=>whnf))
     refine⟨i+1,⟨by omega,fun m hm=> ?_⟩,by omega,?_⟩
     ·by_cases hmi:m=i
      ·rw[hmi,hgd];exact hh
      ·exact h2 m (by omega)
     exact leQ
   ·have gl:decide ((i:Int)<(l.length:Int))=false:=decide_eq_false (by omega)
    obtain rfl:=hyes fun m hm=>h2 m (by omega)
    (repeat'((conv=>whnf);refine zN ?_));(all_goals(conv=>whnf))
    all_goals exact zE
theorem tD {f:Nat→List UInt8} {l:List Nat} {i n:Nat} (h:l[i]?=some n):(l.take (i+1)).flatMap f=(l.take i).flatMap f++f n:=by
 have hi:=(Az.1 h).1
 rw[List.take_add_one,h,List.flatMap_append];simp
theorem Mz {f:Nat→List UInt8} {m:Nat} (hf:∀x,(f x).length≤m):∀l:List Nat,(l.flatMap f).length≤m*l.length
 |[]=>by simp
 |x::l=>by
  have:=hf x;have:=Mz hf l
  rw[List.flatMap_cons,Ak,Ag,Nat.mul_add];omega
theorem OK (n:Nat):Jf 1 n=[UInt8.ofNat n]:=by
 unfold Jf;rw[if_neg (by omega)];show [UInt8.ofNat (n/256^0)]=_;rw[Nat.pow_zero,Nat.div_one]
theorem OL (n:Nat):Jf 2 n=[UInt8.ofNat (n/256),UInt8.ofNat (n%256)]:=by
 unfold Jf;rw[if_neg (by omega)];show [UInt8.ofNat (n/256^1),UInt8.ofNat (n/256^0)]=_
 rw[Nat.pow_zero,Nat.div_one,Nat.pow_one,show UInt8.ofNat n=UInt8.ofNat (n%256) from(UInt8.toNat_inj.1 (by simp))]
theorem OM (n:Nat) (h:n≤1114111):Jf 4 n=[0,UInt8.ofNat (n/65536),UInt8.ofNat (n/256%256),UInt8.ofNat (n%256)]:=by
 unfold Jf;rw[if_neg (by omega)];show [UInt8.ofNat (n/256^3),UInt8.ofNat (n/256^2),UInt8.ofNat (n/256^1),UInt8.ofNat (n/256^0)]=_
 rw[Nat.pow_zero,Nat.div_one,Nat.pow_one,show n/256^3=0 by omega,show UInt8.ofNat n=UInt8.ofNat (n%256) from(UInt8.toNat_inj.1 (by simp)),show UInt8.ofNat (n/256)=UInt8.ofNat (n/256%256) from(UInt8.toNat_inj.1 (by simp))]
 rfl
theorem G8 (k:Int) (s:List UInt8) (hs:s.length≤16777216):Ab Tryz.prog 168 [txA k s] (fun r=>r= .tup [.d (Af true (Fc k s)),iv (Ix k s)]):=by
 have hV:=H4 k s hs
 have hP:=Sx s hs
 have hW:=Pc k
 unfold Fc Ix
 cases hv:Al k s
 ·rw[hv] at hV
  refine acQ 85 Tryz.func168 rfl rfl fun _ _ _=> ?_
  (repeat'((conv=>whnf);first|refine Ac ?_|refine Aa hV rfl ?_|exact zE))
 ·rw[hv] at hV
  have hvD:validD s=true:=by unfold Al at hv;simp at hv;exact hv.1.1
  have hk:¬Ap k<0:=by unfold Al at hv;simp at hv;omega
  rw[show Wj s= .tup [.d (sY true (rns s)),bv true] by unfold Wj;rw[if_pos hvD]] at hP
  have hsc:∀x∈rns s,x≤1114111:=fun x hx=>by have:=(C3 x).1 (Kc s hvD x hx);omega
  have hlen:=Qp s hvD
  rw[if_pos rfl,if_pos rfl,←Kf hv]
  have hw3:Ap k=0∨Ap k=1∨Ap k=2∨Ap k=4:=by
   rcases Dm k hk with rfl|rfl|rfl|rfl|rfl|rfl|rfl<;>simp[Ap]
  generalize rns s=l at hP hsc hlen⊢
  generalize Ap k=W at hW hw3⊢
  clear hv hvD hk
  have hfl:∀i,((l.take i).flatMap (Jf W)).length≤4*(l.take i).length:=fun i=>Mz (fun x=>L9 W x (by omega)) _
  refine acQ 85 Tryz.func168 rfl rfl fun _ _ _=> ?_
  (repeat'((conv=>whnf);first|refine Ae ?_|refine Aa hV rfl ?_|refine Aa hP rfl ?_));(all_goals(conv=>whnf))
  refine Bb [.s 6 1 5] (fun i:Nat=>i≤l.length) (fun i=>l.length-i) (fun i=>⟨[(1,.ptr 1 0),(4,.d (sY true l)),(6,A7 6 5 ((l.take i).flatMap (Jf W))),(7,iv i)],[(1,[iv k,.d (.v (.string ⟨⟨s⟩⟩))])],[(6,(((l.take i).flatMap (Jf W)).length,1,5))]⟩) 0 (by omega) leQ ?_
  rintro i h1
  have hfi:=hfl i
  rw[Ao] at hfi
  by_cases hil:i<l.length
  ·have gl:decide ((i:Int)<(l.length:Int))=true:=decide_eq_true (by omega)
   obtain⟨n,hn⟩:∃n,l[i]?=some n:=⟨_,An hil⟩
   have hnb:=hsc n (Bi hn)
   have hO:=E0 n (by omega)
   have e1:=tD (f:=Jf W) hn
   have ol:=Q8 n
   generalize hq:(l.take i).flatMap (Jf W)=Q at hfi e1⊢
   rcases hw3 with rfl|rfl|rfl|rfl
   ·rw[show Jf 0 n=Dt n from rfl] at e1
    (repeat'((conv=>whnf);first|refine zP ?_|refine Ac ?_|refine Aa hW rfl ?_|refine NIdx.tab (fun _=>rfl) hn ?_|refine Aa hO rfl ?_|(with_reducible refine NInt.i64 ?_)|(with_reducible refine NApp.bytes ?_)));(all_goals(conv=>whnf))
    refine⟨i+1,by omega,by omega,?_⟩
    rw[e1]
    exact leQ
   ·rw[OK] at e1
    (repeat'((conv=>whnf);first|refine zP ?_|refine Ac ?_|refine Ae ?_|refine Aa hW rfl ?_|refine NIdx.tab (fun _=>rfl) hn ?_|(with_reducible refine Bp (n) ?_)|refine Io ((UInt8.ofNat n)) ?_|(with_reducible refine NInt.i64 ?_)));(all_goals(conv=>whnf))
    refine⟨i+1,by omega,by omega,?_⟩
    rw[e1]
    exact leQ
   ·rw[OL] at e1
    (repeat'((conv=>whnf);first|refine zP ?_|refine Ac ?_|refine Ae ?_|refine Aa hW rfl ?_|refine NIdx.tab (fun _=>rfl) hn ?_|(with_reducible refine Bp (n/256) ?_)|(with_reducible refine Bp (n%256) ?_)|(refine E2 (Q++[UInt8.ofNat (n/256),UInt8.ofNat (n%256)]).length (Aq (Q++[UInt8.ofNat (n/256),UInt8.ofNat (n%256)])) ?_ rfl (by omega) (by rw[Ak];rfl) (by rw[Hy];rfl))|(with_reducible refine NInt.i64 ?_)|(with_reducible refine Bx ?_)|(with_reducible refine Bf ?_)|refine zF ?_|refine Au (by first|decide|omega|(simp only[Ag,List.length_nil];omega)) ?_));(all_goals(conv=>whnf))
    refine⟨i+1,by omega,by omega,?_⟩
    rw[e1]
    exact leQ
   ·rw[OM n hnb] at e1
    (repeat'((conv=>whnf);first|refine zP ?_|refine Ae ?_|refine Aa hW rfl ?_|refine NIdx.tab (fun _=>rfl) hn ?_|(with_reducible refine Bp (n/65536) ?_)|(with_reducible refine Bp (n/256%256) ?_)|(with_reducible refine Bp (n%256) ?_)|(refine E2 (Q++[0,UInt8.ofNat (n/65536),UInt8.ofNat (n/256%256),UInt8.ofNat (n%256)]).length (Aq (Q++[0,UInt8.ofNat (n/65536),UInt8.ofNat (n/256%256),UInt8.ofNat (n%256)])) ?_ rfl (by omega) (by rw[Ak];rfl) (by rw[Hy];rfl))|(with_reducible refine NInt.i64 ?_)|(with_reducible refine Bx ?_)|(with_reducible refine Bf ?_)|refine zF ?_|refine Au (by first|decide|omega|(simp only[Ag,List.length_nil];omega)) ?_));(all_goals(conv=>whnf))
    refine⟨i+1,by omega,by omega,?_⟩
    rw[e1]
    exact leQ
  ·have gl:decide ((i:Int)<(l.length:Int))=false:=decide_eq_false (by omega)
   rw[List.take_of_length_le (by omega)]
   (repeat'((conv=>whnf);refine zN ?_));(all_goals(conv=>whnf))
   all_goals exact zE
theorem Ih (k:Int) (c:List UInt8) (hl:c.length≤1000000):Ab Tryz.prog 158 [iv k,.d (Af false c)] (fun r=>r= .tup [txA (Fg k c) (Cw k c),iv (D4 k c)]):=by
 have hW:=Pc k
 have hbl:=tX k c hl
 by_cases hk:Ap k<0
 ·have g:decide (Ap k<0)=true:=decide_eq_true hk
  unfold Fg Cw D4
  rw[if_pos hk,if_pos hk,if_pos hk]
  refine acQ 75 Tryz.func158 rfl rfl fun _ _ _=> ?_
  (repeat'((conv=>whnf);first|refine zP ?_|refine Aa hW rfl ?_|exact zE))
 ·have g:decide (Ap k<0)=false:=decide_eq_false hk
  have hE:=G8 k (Fj k c) (by omega)
  have hW4:Ap k≤4:=by rcases Dm k hk with rfl|rfl|rfl|rfl|rfl|rfl|rfl<;>simp[Ap]
  by_cases h0:Ap k=0
  ·have hB:Fj k c=c:=by unfold Fj;rw[if_pos h0]
   rw[hB] at hE
   rw[h0] at hW
   refine acQ 75 Tryz.func158 rfl rfl fun _ _ _=> ?_
   (repeat'((conv=>whnf);first|refine Ac ?_|refine Ae ?_|refine Aa hW rfl ?_|(with_reducible refine Mh ?_)));(all_goals(conv=>whnf))
   refine A1 (fun _:Nat=>True) (fun _=>0) (fun _=>⟨[(0,iv k),(1,.d (Af false c)),(4,.ptr 4 0),(6,iv 0),(7,A7 23 5 c),(8,iv 0)],[(4,[iv 0,sx []])],[(23,(c.length,1,5))]⟩) 0 trivial leQ ?_
   rintro- -
   cases hv:Al k c
   ·rw[show Fc k c=[] by unfold Fc;rw[hv];rfl,show Ix k c=8 by unfold Ix;rw[hv];rfl] at hE
    have hok:okD k c=false:=by unfold okD;rw[hB,hv];rfl
    rw[show Fg k c=0 by unfold Fg;rw[if_neg hk,hok];rfl,show Cw k c=[] by unfold Cw;rw[if_neg hk,hok];rfl,show D4 k c=6 by unfold D4;rw[if_neg hk,hok];rfl]
    clear hv hok
    (repeat'((conv=>whnf);first|refine Ac ?_|refine Ae ?_|refine Aa hE rfl ?_|(with_reducible refine E1 ?_)|exact zE))
   ·rw[show Fc k c=chS k c by unfold Fc;rw[hv];rfl,show Ix k c=0 by unfold Ix;rw[hv];rfl] at hE
    have hQ:=Cz false false (chS k c) c (by have:=Mz (f:=Jf (Ap k)) (m:=4) (fun x=>L9 _ x hW4) (rns c);rw[Kf hv] at this;have:=Qp c (by unfold Al at hv;simp at hv;exact hv.1.1);omega) (by omega)
    have hok:okD k c=(chS k c==c):=by unfold okD;rw[hB,hv,Bool.true_and]
    generalize chS k c=ch at hE hQ hok
    cases hq:ch==c
    ·rw[hq] at hQ hok
     rw[show Fg k c=0 by unfold Fg;rw[if_neg hk,hok];rfl,show Cw k c=[] by unfold Cw;rw[if_neg hk,hok];rfl,show D4 k c=6 by unfold D4;rw[if_neg hk,hok];rfl]
     clear hv hok hq
     (repeat'((conv=>whnf);first|refine Ac ?_|refine Ae ?_|refine Aa hE rfl ?_|refine Aa hQ gvQ ?_|(with_reducible refine E1 ?_)|exact zE))
    ·rw[hq] at hQ hok
     rw[show Fg k c=k by unfold Fg;rw[if_neg hk,if_pos hok],show Cw k c=c by unfold Cw;rw[if_neg hk,if_pos hok,hB],show D4 k c=0 by unfold D4;rw[if_neg hk,if_pos hok]]
     clear hv hok hq
     (repeat'((conv=>whnf);first|refine Ae ?_|refine Aa hE rfl ?_|refine Aa hQ gvQ ?_|(with_reducible refine E1 ?_)|exact zE))
  ·obtain⟨N,hN,hN1⟩:∃N:Nat,Ap k=(N:Int)∧1≤N:=⟨(Ap k).toNat,by omega,by omega⟩
   have hN4:N≤4:=by omega
   have hB:Fj k c=Eb N c (c.length/N):=by unfold Fj;rw[if_neg h0,hN];rfl
   have g0:decide ((N:Int)>0)=true:=decide_eq_true (by omega)
   have g1:((N:Int)==0)=false:=beq_eq_false_iff_ne.2 (by omega)
   have g2:decide ((N:Int)<0)=false:=decide_eq_false (by omega)
   rw[hB] at hE hbl
   rw[hN] at hW
   refine acQ 75 Tryz.func158 rfl rfl fun _ _ _=> ?_
   (repeat'((conv=>whnf);first|refine zN ?_|refine Aa hW rfl ?_));(all_goals(conv=>whnf))
   refine Bb [.s 7 1 5] (fun j:Nat=>j*N≤c.length) (fun j=>c.length-j*N) (fun j=>⟨[(0,iv k),(1,.d (Af false c)),(4,.ptr 4 0),(6,iv N),(7,A7 7 5 (Eb N c j)),(8,iv (j*N:Nat))],[(4,[iv 0,sx []])],[(7,((Eb N c j).length,1,5))]⟩) 0 (by omega) leQ ?_
   rintro j hj
   generalize hi:j*N=i at hj⊢
   have hul:=Jl N c j
   have hjl:j≤c.length:=Nat.le_trans (by rw[←Nat.mul_one j];exact Nat.le_trans (Nat.mul_le_mul_left j hN1) (by omega)) hj
   by_cases hmore:i+N≤c.length
   ·have g3:decide ((i:Int)+(N:Int)≤(c.length:Int))=true:=decide_eq_true (by omega)
    (repeat'((conv=>whnf);first|refine zP ?_|refine Ac ?_|(with_reducible refine NInt.i64 ?_)));(all_goals(conv=>whnf))
    refine A1 (fun p:Nat×Nat=>p.1≤N∧p.2<256^p.1∧p.2=Dl c i p.1) (fun p=>N-p.1) (fun p=>⟨[(0,iv k),(1,.d (Af false c)),(4,.ptr 4 0),(6,iv N),(7,A7 7 5 (Eb N c j)),(8,iv i),(9,iv p.2),(10,iv p.1)],[(4,[iv 0,sx []])],[(7,((Eb N c j).length,1,5))]⟩) (0,0) ⟨by simp,by simp,rfl⟩ leQ ?_
    rintro⟨q,x⟩ ⟨q1,q2,q3⟩
    simp only at q1 q2 q3
    have q5:=Wk q2 (by omega)
    by_cases hqn:q<N
    ·have g4:decide ((q:Int)<(N:Int))=true:=decide_eq_true (by omega)
     obtain⟨d,hd⟩:∃d,c[i+q]?=some d:=⟨_,An (by omega)⟩
     have hdl:=d.toNat_lt
     have hgd:(c.getD (i+q) 0)=d:=by rw[List.getD_eq_getElem?_getD,hd];rfl
     (repeat'((conv=>whnf);first|refine zP ?_|refine NIdx.bytes hd ?_|(with_reducible refine NInt.i64 ?_)));(all_goals(conv=>whnf))
     refine⟨(q+1,x*256+d.toNat),⟨by show q+1≤N;omega,by show _<256^(q+1);rw[Nat.pow_succ];omega,by show _=Dl c i q*256+(c.getD (i+q) 0).toNat;rw[hgd,q3]⟩,by show N-(q+1)<N-q;omega,?_⟩
     exact leQ
    ·have g4:decide ((q:Int)<(N:Int))=false:=decide_eq_false (by omega)
     obtain rfl:q=N:=by omega
     have hO:=E0 x (by omega)
     have ol:=Q8 x
     have e1:Eb q c (j+1)=Eb q c j++Dt x:=by rw[Pl,q3,hi]
     generalize hU:Eb q c j=U at hul e1⊢
     (repeat'((conv=>whnf);first|refine zN ?_|refine Aa hO rfl ?_|(with_reducible refine NInt.i64 ?_)|(with_reducible refine NApp.bytes ?_)));(all_goals(conv=>whnf))
     refine⟨j+1,by rw[Nat.succ_mul];omega,by rw[Nat.succ_mul];omega,?_⟩
     rw[e1]
     rw[Nat.succ_mul,hi]
     exact leQ
   ·have g3:decide ((i:Int)+(N:Int)≤(c.length:Int))=false:=decide_eq_false (by omega)
    have hjd:c.length/N=j:=by
     rw[Nat.div_eq_iff (by omega)]
     constructor
     ·omega
     ·omega
    rw[hjd] at hB hE hbl
    generalize Eb N c j=U at hB hE hbl hul⊢
    cases hv:Al k U
    ·rw[show Fc k U=[] by unfold Fc;rw[hv];rfl,show Ix k U=8 by unfold Ix;rw[hv];rfl] at hE
     have hok:okD k c=false:=by unfold okD;rw[hB,hv];rfl
     rw[show Fg k c=0 by unfold Fg;rw[if_neg hk,hok];rfl,show Cw k c=[] by unfold Cw;rw[if_neg hk,hok];rfl,show D4 k c=6 by unfold D4;rw[if_neg hk,hok];rfl]
     clear hv hok
     (repeat'((conv=>whnf);first|refine zP ?_|refine zN ?_|refine Ac ?_|refine Aa hE rfl ?_|(with_reducible refine NInt.i64 ?_)|(with_reducible refine E1 ?_)|exact zE))
    ·rw[show Fc k U=chS k U by unfold Fc;rw[hv];rfl,show Ix k U=0 by unfold Ix;rw[hv];rfl] at hE
     have hQ:=Cz false false (chS k U) c (by have:=Mz (f:=Jf (Ap k)) (m:=4) (fun x=>L9 _ x hW4) (rns U);rw[Kf hv] at this;have:=Qp U (by unfold Al at hv;simp at hv;exact hv.1.1);omega) (by omega)
     have hok:okD k c=(chS k U==c):=by unfold okD;rw[hB,hv,Bool.true_and]
     generalize chS k U=ch at hE hQ hok
     cases hq:ch==c
     ·rw[hq] at hQ hok
      rw[show Fg k c=0 by unfold Fg;rw[if_neg hk,hok];rfl,show Cw k c=[] by unfold Cw;rw[if_neg hk,hok];rfl,show D4 k c=6 by unfold D4;rw[if_neg hk,hok];rfl]
      clear hv hok hq
      (repeat'((conv=>whnf);first|refine zP ?_|refine zN ?_|refine Ac ?_|refine Ae ?_|refine Aa hE rfl ?_|refine Aa hQ gvQ ?_|(with_reducible refine NInt.i64 ?_)|(with_reducible refine E1 ?_)|exact zE))
     ·rw[hq] at hQ hok
      rw[show Fg k c=k by unfold Fg;rw[if_neg hk,if_pos hok],show Cw k c=U by unfold Cw;rw[if_neg hk,if_pos hok,hB],show D4 k c=0 by unfold D4;rw[if_neg hk,if_pos hok]]
      clear hv hok hq
      (repeat'((conv=>whnf);first|refine zP ?_|refine zN ?_|refine Ac ?_|refine Ae ?_|refine Aa hE rfl ?_|refine Aa hQ gvQ ?_|(with_reducible refine NInt.i64 ?_)|(with_reducible refine E1 ?_)|exact zE))
end Go.Proofs.YtaoahmplnckhpaaGreatDoor
