/- MQ: the texts Oct Pts Val7 Dec7, one behind the other. No condition but what each lemma says. -/
import Derived.Test.YtokmjjkbginodaaGreatDoorMI
set_option maxRecDepth 100000
set_option maxHeartbeats 16000000
namespace Go.Proofs.YtokmjjkbginodaaGreatDoor
open Go.RowKit
theorem E2 (x:Nat) (hx:x≤1099511627776):Ab Tryz.prog 164 [iv x] (fun r=>r= .d (Af true (Du x))):=by
 have g0:decide ((x:Int)<0)=false:=decide_eq_false (by omega)
 by_cases h1:x>1114111
 ·have g1:decide ((x:Int)>1114111)=true:=decide_eq_true (by omega)
  have hs:E7 x=false:=by rw[Bool.eq_false_iff,Ne,C3];omega
  rw[Du,if_neg (by simp[hs])]
  clear hs
  refine acQ 68 Tryz.func164 rfl rfl fun _ _ _=> ?_
  (repeat'((conv=>whnf);first|refine zP ?_|refine zN ?_|refine Ac ?_|refine Ae ?_|exact zE))
 ·have g1:decide ((x:Int)>1114111)=false:=decide_eq_false (by omega)
  by_cases h2:x≥55296∧x<57344
  ·have g2:decide ((x:Int)≥55296)=true:=decide_eq_true (by omega)
   have g3:decide ((x:Int)<57344)=true:=decide_eq_true (by omega)
   have hs:E7 x=false:=by rw[Bool.eq_false_iff,Ne,C3];omega
   rw[Du,if_neg (by simp[hs])]
   clear hs h2
   refine acQ 68 Tryz.func164 rfl rfl fun _ _ _=> ?_
   (repeat'((conv=>whnf);first|refine zP ?_|refine zN ?_|refine Ac ?_|refine Ae ?_|exact zE))
  ·have hs:E7 x=true:=by rw[C3];omega
   rw[Du,if_pos hs]
   clear hs
   have e:enc x=(L8 x).map UInt8.ofNat:=rfl
   by_cases k1:x<128
   ·have g2:decide ((x:Int)≥55296)=false:=decide_eq_false (by omega)
    have g4:decide ((x:Int)<128)=true:=decide_eq_true (by omega)
    rw[L8,if_pos k1] at e
    rw[e]
    refine acQ 68 Tryz.func164 rfl rfl fun _ _ _=> ?_
    (repeat'((conv=>whnf);first|refine zP ?_|refine zN ?_|refine Ae ?_|(with_reducible refine Bi (x) ?_)));(all_goals(conv=>whnf))
    all_goals(refine Cg rfl (?_:_=_);try simp only[AV.dat])
    all_goals rfl
   ·have g4:decide ((x:Int)<128)=false:=decide_eq_false (by omega)
    rw[L8,if_neg k1] at e
    by_cases k2:x<2048
    ·have g2:decide ((x:Int)≥55296)=false:=decide_eq_false (by omega)
     have g5:decide ((x:Int)<2048)=true:=decide_eq_true (by omega)
     rw[if_pos k2] at e
     rw[e]
     refine acQ 68 Tryz.func164 rfl rfl fun _ _ _=> ?_
     (repeat'((conv=>whnf);first|refine zP ?_|refine zN ?_|refine Ae ?_|(with_reducible refine Bi (192+x/64) ?_)|(with_reducible refine Bi (128+x%64) ?_)|(with_reducible refine NInt.i64 ?_)|(with_reducible refine Bz ?_)|(with_reducible refine Bh ?_)|refine Au (by first|decide|omega|(simp only[Ag,List.length_nil];omega)) ?_));(all_goals(conv=>whnf))
     all_goals(refine Cg rfl (?_:_=_);try simp only[AV.dat])
     all_goals rfl
    ·have g5:decide ((x:Int)<2048)=false:=decide_eq_false (by omega)
     rw[if_neg k2] at e
     by_cases k3:x<65536
     ·have g6:decide ((x:Int)<65536)=true:=decide_eq_true (by omega)
      rw[if_pos k3] at e
      rw[e]
      by_cases d:x≥55296
      ·have g2:decide ((x:Int)≥55296)=true:=decide_eq_true (by omega)
       have g3:decide ((x:Int)<57344)=false:=decide_eq_false (by omega)
       refine acQ 68 Tryz.func164 rfl rfl fun _ _ _=> ?_
       (repeat'((conv=>whnf);first|refine zP ?_|refine zN ?_|refine Ac ?_|refine Ae ?_|(with_reducible refine Bi (224+x/4096) ?_)|(with_reducible refine Bi (128+x/64%64) ?_)|(with_reducible refine Bi (128+x%64) ?_)|(with_reducible refine NInt.i64 ?_)|(with_reducible refine Bz ?_)|(with_reducible refine Bh ?_)|refine Au (by first|decide|omega|(simp only[Ag,List.length_nil];omega)) ?_));(all_goals(conv=>whnf))
       all_goals(refine Cg rfl (?_:_=_);try simp only[AV.dat])
       all_goals rfl
      ·have g2:decide ((x:Int)≥55296)=false:=decide_eq_false (by omega)
       refine acQ 68 Tryz.func164 rfl rfl fun _ _ _=> ?_
       (repeat'((conv=>whnf);first|refine zP ?_|refine zN ?_|refine Ae ?_|(with_reducible refine Bi (224+x/4096) ?_)|(with_reducible refine Bi (128+x/64%64) ?_)|(with_reducible refine Bi (128+x%64) ?_)|(with_reducible refine NInt.i64 ?_)|(with_reducible refine Bz ?_)|(with_reducible refine Bh ?_)|refine Au (by first|decide|omega|(simp only[Ag,List.length_nil];omega)) ?_));(all_goals(conv=>whnf))
       all_goals(refine Cg rfl (?_:_=_);try simp only[AV.dat])
       all_goals rfl
     ·have g6:decide ((x:Int)<65536)=false:=decide_eq_false (by omega)
      have g2:decide ((x:Int)≥55296)=true:=decide_eq_true (by omega)
      have g3:decide ((x:Int)<57344)=false:=decide_eq_false (by omega)
      rw[if_neg k3] at e
      rw[e]
      refine acQ 68 Tryz.func164 rfl rfl fun _ _ _=> ?_
      (repeat'((conv=>whnf);first|refine zP ?_|refine zN ?_|refine Ac ?_|refine Ae ?_|(with_reducible refine Bi (240+x/262144) ?_)|(with_reducible refine Bi (128+x/4096%64) ?_)|(with_reducible refine Bi (128+x/64%64) ?_)|(with_reducible refine Bi (128+x%64) ?_)|(with_reducible refine NInt.i64 ?_)|(with_reducible refine Bz ?_)|(with_reducible refine Bh ?_)|refine Au (by first|decide|omega|(simp only[Ag,List.length_nil];omega)) ?_));(all_goals(conv=>whnf))
      all_goals(refine Cg rfl (?_:_=_);try simp only[AV.dat])
      all_goals rfl
theorem Pq (k:Int):Ab Tryz.prog 163 [iv k] (fun r=>r=iv (Ar k)):=by
 have hc:∀c:Int,k=c∨k≠c:=fun c=>by omega
 rcases hc 12 with rfl|n1
 ·refine acQ 15 Tryz.func163 rfl rfl fun _ _ _=> ?_
  (repeat'((conv=>whnf);refine Ac ?_));(all_goals(conv=>whnf))
  all_goals exact zE
 rcases hc 28 with rfl|n2
 ·refine acQ 15 Tryz.func163 rfl rfl fun _ _ _=> ?_
  (repeat'((conv=>whnf);first|refine Ac ?_|refine Ae ?_|exact zE))
 rcases hc 30 with rfl|n3
 ·refine acQ 15 Tryz.func163 rfl rfl fun _ _ _=> ?_
  (repeat'((conv=>whnf);first|refine Ac ?_|refine Ae ?_|exact zE))
 rcases hc 19 with rfl|n4
 ·refine acQ 15 Tryz.func163 rfl rfl fun _ _ _=> ?_
  (repeat'((conv=>whnf);first|refine Ac ?_|refine Ae ?_|exact zE))
 rcases hc 20 with rfl|n5
 ·refine acQ 15 Tryz.func163 rfl rfl fun _ _ _=> ?_
  (repeat'((conv=>whnf);first|refine Ac ?_|refine Ae ?_|exact zE))
 rcases hc 22 with rfl|n6
 ·refine acQ 15 Tryz.func163 rfl rfl fun _ _ _=> ?_
  (repeat'((conv=>whnf);first|refine Ac ?_|refine Ae ?_|exact zE))
 rcases hc 26 with rfl|n7
 ·refine acQ 15 Tryz.func163 rfl rfl fun _ _ _=> ?_
  (repeat'((conv=>whnf);first|refine Ac ?_|refine Ae ?_|exact zE))
 have g1:(k==12)=false:=beq_eq_false_iff_ne.2 n1
 have g2:(k==28)=false:=beq_eq_false_iff_ne.2 n2
 have g3:(k==30)=false:=beq_eq_false_iff_ne.2 n3
 have g4:(k==19)=false:=beq_eq_false_iff_ne.2 n4
 have g5:(k==20)=false:=beq_eq_false_iff_ne.2 n5
 have g6:(k==22)=false:=beq_eq_false_iff_ne.2 n6
 have g7:(k==26)=false:=beq_eq_false_iff_ne.2 n7
 have e:Ar k= -1:=by
  unfold Ar
  rw[if_neg n1,if_neg n2,if_neg n3,if_neg (by omega)]
 rw[e]
 refine acQ 15 Tryz.func163 rfl rfl fun _ _ _=> ?_
 (repeat'((conv=>whnf);refine zN ?_));(all_goals(conv=>whnf))
 all_goals exact zE
def Wr:List UInt8:=[32,39,40,41,43,44,45,46,47,58,61,63]
theorem HH {x i:Nat} {c:UInt8} (h:Wr[i]?=some c) (e:c.toNat=x):oth.contains x=true:=by
 have h1:∀c∈Wr,oth.contains c.toNat=true:=by decide+kernel
 rw[←e];exact h1 c (A8 h)
theorem MH {x:Nat} (h:∀(m:Nat) (c:UInt8),Wr[m]?=some c→c.toNat≠x):oth.contains x=false:=by
 rw[Bool.eq_false_iff];intro hc
 have h1:∀y∈oth,∃c∈Wr,c.toNat=y:=by decide+kernel
 obtain⟨c,hc',e⟩:=h1 x (by simpa using hc)
 obtain⟨m,hm⟩:=List.getElem?_of_mem hc'
 exact h m c hm e
theorem gM (k:Int) (hk:k=12∨k=28) (x:Nat) (hx:x≤1099511627776):Ab Tryz.prog 205 [iv k,iv x] (fun r=>r=bv (B5 k x)):=by
 have hO:=E2 x hx
 have e:B5 k x=decide (((Du x).length:Int)>0):=by
  unfold B5;rw[if_pos hk]
  cases hs:E7 x
  ·have:Du x=[]:=by unfold Du;rw[if_neg (by simp[hs])]
   rw[this];rfl
  ·obtain⟨m,hm⟩:=P0 x hs
   rw[hm];exact(decide_eq_true (by omega)).symm
 rw[e]
 rcases hk with rfl|rfl
 ·refine acQ 93 Tryz.func205 rfl rfl fun _ _ _=> ?_
  (repeat'((conv=>whnf);first|refine Ac ?_|refine Aa hO rfl ?_|exact zE))
 ·refine acQ 93 Tryz.func205 rfl rfl fun _ _ _=> ?_
  (repeat'((conv=>whnf);first|refine Ac ?_|refine Ae ?_|refine Aa hO rfl ?_|exact zE))
theorem AY (x:Nat) (hx:x≤1099511627776):Ab Tryz.prog 205 [iv 30,iv x] (fun r=>r=bv (B5 30 x)):=by
 have hO:=E2 x hx
 have e:B5 30 x=(E7 x&&decide (x<65536)):=rfl
 cases hs:E7 x
 ·have ho:Du x=[]:=by unfold Du;rw[if_neg (by simp[hs])]
  rw[e,hs,Bool.false_and]
  rw[ho] at hO
  clear hs
  refine acQ 93 Tryz.func205 rfl rfl fun _ _ _=> ?_
  (repeat'((conv=>whnf);first|refine Ac ?_|refine Ae ?_|refine Aa hO rfl ?_|exact zE))
 ·obtain⟨m,hm⟩:=P0 x hs
  have g:decide (((Du x).length:Int)>0)=true:=decide_eq_true (by omega)
  rw[e,hs,Bool.true_and,show decide (x<65536)=decide ((x:Int)<65536) from decide_eq_decide.2 (by omega)]
  clear hs
  refine acQ 93 Tryz.func205 rfl rfl fun _ _ _=> ?_
  (repeat'((conv=>whnf);first|refine zP ?_|refine Ac ?_|refine Ae ?_|refine Aa hO rfl ?_|exact zE))
theorem AZ (x:Nat):Ab Tryz.prog 205 [iv 22,iv x] (fun r=>r=bv (B5 22 x)):=by
 have g:decide ((x:Int)≥0)=true:=decide_eq_true (by omega)
 rw[show B5 22 x=decide ((x:Int)<128) from(show B5 22 x=decide (x<128) from rfl).trans (decide_eq_decide.2 (by omega))]
 refine acQ 93 Tryz.func205 rfl rfl fun _ _ _=> ?_
 (repeat'((conv=>whnf);first|refine zP ?_|refine Ac ?_|refine Ae ?_|exact zE))
theorem BA (x:Nat):Ab Tryz.prog 205 [iv 26,iv x] (fun r=>r=bv (B5 26 x)):=by
 have e:B5 26 x=decide (32≤x∧x<127):=rfl
 by_cases d:x≥32
 ·have g:decide ((x:Int)≥32)=true:=decide_eq_true (by omega)
  rw[e,show decide (32≤x∧x<127)=decide ((x:Int)<127) from decide_eq_decide.2 (by omega)]
  refine acQ 93 Tryz.func205 rfl rfl fun _ _ _=> ?_
  (repeat'((conv=>whnf);first|refine zP ?_|refine Ac ?_|refine Ae ?_|exact zE))
 ·have g:decide ((x:Int)≥32)=false:=decide_eq_false (by omega)
  rw[e,show decide (32≤x∧x<127)=false from decide_eq_false (by omega)]
  refine acQ 93 Tryz.func205 rfl rfl fun _ _ _=> ?_
  (repeat'((conv=>whnf);first|refine zN ?_|refine Ac ?_|refine Ae ?_|exact zE))
theorem BB (x:Nat):Ab Tryz.prog 205 [iv 20,iv x] (fun r=>r=bv (B5 20 x)):=by
 have e:B5 20 x=decide ((32≤x∧x<127)∨(160≤x∧x<256)):=rfl
 by_cases d:x≥160
 ·have g1:decide ((x:Int)≥32)=true:=decide_eq_true (by omega)
  have g2:decide ((x:Int)<127)=false:=decide_eq_false (by omega)
  have g3:decide ((x:Int)≥160)=true:=decide_eq_true (by omega)
  rw[e,show decide ((32≤x∧x<127)∨(160≤x∧x<256))=decide ((x:Int)<256) from decide_eq_decide.2 (by omega)]
  refine acQ 93 Tryz.func205 rfl rfl fun _ _ _=> ?_
  (repeat'((conv=>whnf);first|refine zP ?_|refine zN ?_|refine Ac ?_|refine Ae ?_|exact zE))
 ·have g3:decide ((x:Int)≥160)=false:=decide_eq_false (by omega)
  by_cases d1:32≤x∧x<127
  ·have g1:decide ((x:Int)≥32)=true:=decide_eq_true (by omega)
   have g2:decide ((x:Int)<127)=true:=decide_eq_true (by omega)
   rw[e,show decide ((32≤x∧x<127)∨(160≤x∧x<256))=true from decide_eq_true (by omega)]
   refine acQ 93 Tryz.func205 rfl rfl fun _ _ _=> ?_
   (repeat'((conv=>whnf);first|refine zP ?_|refine Ac ?_|refine Ae ?_|exact zE))
  ·rw[e,show decide ((32≤x∧x<127)∨(160≤x∧x<256))=false from decide_eq_false (by omega)]
   by_cases d2:x≥32
   ·have g1:decide ((x:Int)≥32)=true:=decide_eq_true (by omega)
    have g2:decide ((x:Int)<127)=false:=decide_eq_false (by omega)
    refine acQ 93 Tryz.func205 rfl rfl fun _ _ _=> ?_
    (repeat'((conv=>whnf);first|refine zP ?_|refine zN ?_|refine Ac ?_|refine Ae ?_|exact zE))
   ·have g1:decide ((x:Int)≥32)=false:=decide_eq_false (by omega)
    refine acQ 93 Tryz.func205 rfl rfl fun _ _ _=> ?_
    (repeat'((conv=>whnf);first|refine zN ?_|refine Ac ?_|refine Ae ?_|exact zE))
theorem BC (x:Nat):Ab Tryz.prog 205 [iv 19,iv x] (fun r=>r=bv (B5 19 x)):=by
 have e:B5 19 x=(decide ((48≤x∧x<58)∨(65≤x∧x<91)∨(97≤x∧x<123))||oth.contains x):=rfl
 by_cases d:(48≤x∧x<58)∨(65≤x∧x<91)∨(97≤x∧x<123)
 ·rw[e,decide_eq_true d,Bool.true_or]
  refine acQ 93 Tryz.func205 rfl rfl fun _ _ _=> ?_
  (repeat'((conv=>whnf);first|refine Ac ?_|refine Ae ?_|(refine Ai (fun hc hcP=> ?_) (fun hc hcP=> ?_)<;>try(exfalso;omega))|exact zE))
 ·rw[e,decide_eq_false d,Bool.false_or]
  refine acQ 93 Tryz.func205 rfl rfl fun _ _ _=> ?_
  (repeat'((conv=>whnf);first|refine Ac ?_|refine Ae ?_|(refine Ai (fun hc hcP=> ?_) (fun hc hcP=> ?_)<;>try(exfalso;omega))));(all_goals(conv=>whnf))
  all_goals refine Ax (fun i:Nat=>i≤12∧∀(m:Nat) (c:UInt8),m<i→Wr[m]?=some c→c.toNat≠x) (fun i=>12-i) (fun i=>⟨[(1,iv x),(5,.d (.v (.string ⟨⟨Wr⟩⟩))),(6,iv i)],[],[]⟩) 0 ⟨by omega,fun m c h=>by omega⟩ leQ ?_
  all_goals
   intro i hi
   obtain⟨h1,h2⟩:=hi
   have hL:Wr.length=12:=rfl
   by_cases hil:i<12
   ·obtain⟨c,hx⟩:∃p,Wr[i]?=some p:=⟨_,Am hil⟩
    have hcl:=c.toNat_lt
    have g:decide ((i:Int)<(Wr.length:Int))=true:=decide_eq_true (by omega)
    by_cases h3:c.toNat=x
    ·have g3:((c.toNat:Int)==(x:Int))=true:=beq_iff_eq.2 (by omega)
     rw[HH hx h3]
     (repeat'((conv=>whnf);first|refine zP ?_|refine Bc hx ?_|(with_reducible refine NInt.i64 ?_)|exact zE))
    ·have g3:((c.toNat:Int)==(x:Int))=false:=beq_eq_false_iff_ne.2 (by omega)
     (repeat'((conv=>whnf);first|refine zP ?_|refine zN ?_|refine Bc hx ?_|(with_reducible refine NInt.i64 ?_)));(all_goals(conv=>whnf))
     refine⟨i+1,⟨by omega,fun m c' hm hc'=> ?_⟩,by omega,?_⟩
     ·by_cases hmi:m=i
      ·subst hmi;rw[hx] at hc';cases hc';exact h3
      ·exact h2 m c' (by omega) hc'
     exact leQ
   ·have g:decide ((i:Int)<(Wr.length:Int))=false:=decide_eq_false (by omega)
    rw[MH fun m c hc=>h2 m c (by have:=(Aw.1 hc).1;have:Wr.length=12:=rfl;omega) hc]
    (repeat'((conv=>whnf);refine zN ?_));(all_goals(conv=>whnf))
    all_goals exact zE
theorem BD (k:Int) (hk:0≤Ar k) (x:Nat) (hx:x≤1099511627776):Ab Tryz.prog 205 [iv k,iv x] (fun r=>r=bv (B5 k x)):=by
 rcases Dl k (by omega) with rfl|rfl|rfl|rfl|rfl|rfl|rfl
 ·exact gM 12 (.inl rfl) x hx
 ·exact BC x
 ·exact BB x
 ·exact AZ x
 ·exact BA x
 ·exact gM 28 (.inr rfl) x hx
 ·exact AY x hx
end Go.Proofs.YtokmjjkbginodaaGreatDoor
namespace Go.Proofs.YtokmjjkbginodaaGreatDoor
open Go.RowKit
open Go.Lib (validD decodeL)
def Xy (n:Nat):List D:=[.v (.int .i64 n)]
def uK (t:Bool) (a:List Nat):D:=Fb t 1 Xy a
theorem HL {b:Nat} (h1:240≤b) (h2:b<248):E8 b=some (3,b-240):=by unfold E8;rw[if_pos (by omega)]
theorem HU {b:Nat} (h1:224≤b) (h2:b<240):E8 b=some (2,b-224):=by unfold E8;rw[if_neg (by omega),if_pos (by omega)]
theorem IA {b:Nat} (h1:192≤b) (h2:b<224):E8 b=some (1,b-192):=by unfold E8;rw[if_neg (by omega),if_neg (by omega),if_pos (by omega)]
theorem IB {b:Nat} (h2:b<128):E8 b=some (0,b):=by unfold E8;rw[if_neg (by omega),if_neg (by omega),if_neg (by omega),if_neg (by omega)]
theorem BE {b:Nat} (h:(128≤b∧b<192)∨248≤b):E8 b=none:=by unfold E8;rw[if_neg (by omega),if_neg (by omega),if_neg (by omega),if_pos (by omega)]
theorem Pr (t:List UInt8) (n k x:Nat) (h0:¬(t.getD k 0).toNat<128) (h1:¬192≤(t.getD k 0).toNat):
 Eo t (n+1) k x=Eo t n (k+1) (x*64+(t.getD k 0).toNat-128):=by
 rw[Eo,if_neg (by omega)]
theorem R7 (t:List UInt8) (n k x:Nat) (h:(t.getD k 0).toNat<128∨192≤(t.getD k 0).toNat):Eo t (n+1) k x=none:=by
 rw[Eo,if_pos h]
theorem lX {t:List UInt8} (h:E8 (t.getD 0 0).toNat=none):Gz t=none:=by unfold Gz;rw[h]
theorem gN {t:List UInt8} {n x:Nat} (h:E8 (t.getD 0 0).toNat=some (n,x)) (hn:t.length≤n):Gz t=none:=by
 unfold Gz;rw[h];simp only[];rw[if_pos hn]
theorem lY {t:List UInt8} {n x:Nat} (h:E8 (t.getD 0 0).toNat=some (n,x)) (hn:¬t.length≤n) (hc:Eo t n 1 x=none):Gz t=none:=by
 unfold Gz;rw[h];simp only[];rw[if_neg hn,hc]
theorem uL {t:List UInt8} {n x y:Nat} (h:E8 (t.getD 0 0).toNat=some (n,x)) (hn:¬t.length≤n) (hc:Eo t n 1 x=some y) (ho:Du y≠t.take (n+1)):Gz t=none:=by
 unfold Gz;rw[h];simp only[];rw[if_neg hn,hc];simp only[];rw[if_neg ho]
theorem uM {t:List UInt8} {n x y:Nat} (h:E8 (t.getD 0 0).toNat=some (n,x)) (hn:¬t.length≤n) (hc:Eo t n 1 x=some y) (ho:Du y=t.take (n+1)):Gz t=some (y,n+1):=by
 unfold Gz;rw[h];simp only[];rw[if_neg hn,hc];simp only[];rw[if_pos ho]
theorem uN {s:List UInt8} {pre:List Nat} {t:List UInt8} {X n:Nat} (hst:s=pre.flatMap enc++t) (hv:validD t=validD s)
 (hr:validD s=true→rns s=pre++rns t) (ht:t≠[]) (hs:Gz t=some (X,n)):
 s=(pre++[X]).flatMap enc++t.drop n∧((pre++[X]).flatMap enc).length=(pre.flatMap enc).length+n∧validD (t.drop n)=validD s∧
  (validD s=true→rns s=(pre++[X])++rns (t.drop n))∧1≤n:=by
 obtain⟨h1,h2,h3⟩:=Oz ht hs
 obtain⟨h4,h5⟩:=X1 X h1 (t.drop n)
 rw[←h2] at h4 h5
 refine⟨?_,?_,?_,?_,?_⟩
 ·rw[hst,List.flatMap_append]
  simp only[List.flatMap_cons,List.flatMap_nil,List.append_nil,List.append_assoc]
  rw[←h2]
 ·rw[List.flatMap_append]
  simp only[List.flatMap_cons,List.flatMap_nil,List.append_nil,Ap]
  rw[h3]
 ·rw[←h4,hv]
 ·intro hV
  rw[hr hV,h5]
  simp
 ·rw[h3];exact(Gf X).1
def Ws (s:List UInt8):AV:=if validD s then .tup [.d (uK true (rns s)),bv true] else .tup [A4,bv false]
theorem gO {s:List UInt8} (h:validD s=false):Ws s= .tup [A4,bv false]:=by unfold Ws;rw[h];rfl
theorem BF (c:Nat):(128≤c∧c<192)∨248≤c∨(240≤c∧c<248)∨(224≤c∧c<240)∨(192≤c∧c<224)∨c<128:=by omega
theorem Wt {k x:Nat} (h:x<256^k) (hk:k≤4):x<4294967296:=Nat.lt_of_lt_of_le h (Nat.pow_le_pow_right (n:=256) (by omega) hk)
theorem S5 (s:List UInt8) (hs:s.length≤16777216):Ab Tryz.prog 176 [.d (.v (.string ⟨⟨s⟩⟩))] (fun r=>r=Ws s):=by
 refine acQ 92 Tryz.func176 rfl rfl fun _ _ _=> ?_
 (all_goals(conv=>whnf))
 refine A5 [.s 4 1 3] (fun p:Nat×List Nat×List UInt8=>p.1+p.2.2.length=s.length∧p.2.1.length≤p.1∧(p.2.1.flatMap enc).length=p.1∧s=p.2.1.flatMap enc++p.2.2∧validD p.2.2=validD s∧(validD s=true→rns s=p.2.1++rns p.2.2)) (fun p=>p.2.2.length) (fun p=>⟨[(0,.d (.v (.string ⟨⟨s⟩⟩))),(4,Bx 4 1 3 Xy p.2.1),(5,iv p.1)],[],[(4,(p.2.1.length,1,3))]⟩) (0,[],s) ⟨by simp,by simp,by simp,by simp,rfl,fun _=>rfl⟩ leQ ?_
 rintro⟨i,pre,t⟩ ⟨h1,h2,h3,h4,h5,h6⟩
 simp only at h1 h2 h3 h4 h5 h6
 cases t with
 |nil=>
  have hv:validD s=true:=by rw[←h5];rfl
  have hR:=h6 hv
  rw[Zq,List.append_nil] at hR
  have g:decide ((i:Int)<(s.length:Int))=false:=decide_eq_false (by simp at h1;omega)
  rw[show Ws s= .tup [.d (uK true pre),bv true] by unfold Ws;rw[if_pos hv,hR]]
  (repeat'((conv=>whnf);refine zN ?_));(all_goals(conv=>whnf))
  all_goals exact zE
 |cons c r=>
  rw[Ag] at h1
  have hg:∀k,s[i+k]?=(c::r)[k]?:=fun k=>by
   rw[h4,List.getElem?_append_right (by omega),h3];congr 1;omega
  have hx:s[i]?=some c:=hg 0
  have hcl:=c.toNat_lt
  have hc0:((c::r).getD 0 0)=c:=rfl
  have g:decide ((i:Int)<(s.length:Int))=true:=decide_eq_true (by omega)
  have hbad:Gz (c::r)=none→Ws s= .tup [A4,bv false]:=fun h=>gO (by rw[←h5];exact rA _ (by simp) h)
  generalize hq:Ws s=q at hbad⊢
  have hlead:((128≤c.toNat∧c.toNat<192)∨248≤c.toNat)∨∃(n x0:Nat) (z:Int),E8 c.toNat=some (n,x0)∧z=n∧x0<256∧n≤3∧((n=3∧240≤c.toNat∧c.toNat<248∧x0=c.toNat-240)∨(n=2∧224≤c.toNat∧c.toNat<240∧x0=c.toNat-224)∨(n=1∧192≤c.toNat∧c.toNat<224∧x0=c.toNat-192)∨(n=0∧c.toNat<128∧x0=c.toNat)):=by
   rcases BF c.toNat with h|h|h|h|h|h
   ·exact .inl (.inl h)
   ·exact .inl (.inr h)
   ·exact .inr ⟨3,c.toNat-240,3,HL h.1 h.2,rfl,by omega,by omega,.inl ⟨rfl,h.1,h.2,rfl⟩⟩
   ·exact .inr ⟨2,c.toNat-224,2,HU h.1 h.2,rfl,by omega,by omega,.inr (.inl ⟨rfl,h.1,h.2,rfl⟩)⟩
   ·exact .inr ⟨1,c.toNat-192,1,IA h.1 h.2,rfl,by omega,by omega,.inr (.inr (.inl ⟨rfl,h.1,h.2,rfl⟩))⟩
   ·exact .inr ⟨0,c.toNat,0,IB h,rfl,by omega,by omega,.inr (.inr (.inr ⟨rfl,h,rfl⟩))⟩
  rcases hlead with hl|⟨n,x0,z,hl,hz,hx0,hn3,hcase⟩
  ·obtain rfl:=hbad (lX (BE hl))
   (repeat'((conv=>whnf);first|refine zP ?_|refine Ac ?_|refine Ae ?_|refine Bc hx ?_|(with_reducible refine NInt.i64 ?_)|(refine Ai (fun hc hcP=> ?_) (fun hc hcP=> ?_)<;>try(exfalso;omega))|exact zE))
  ·by_cases hlen:r.length<n
   ·obtain rfl:=hbad (gN hl (by rw[Ag];omega))
    rcases hcase with⟨rfl,c1,c2,c3⟩|⟨rfl,c1,c2,c3⟩|⟨rfl,c1,c2,c3⟩|⟨rfl,c1,c3⟩
    all_goals(repeat'((conv=>whnf);first|refine zP ?_|refine Ac ?_|refine Ae ?_|refine Bc hx ?_|(with_reducible refine NInt.i64 ?_)|(refine Ai (fun hc hcP=> ?_) (fun hc hcP=> ?_)<;>try(exfalso;omega))|exact zE))
   ·have gl:∀z:Int,z=(n:Int)→decide ((i:Int)+z≥(s.length:Int))=false:=fun z hz=>decide_eq_false (by omega)
    have hround:∀(W:Nat),W=W:=fun _=>rfl
    have hbad1:Eo (c::r) n 1 x0=none→q= .tup [A4,bv false]:=fun h=>hbad (lY hl (by rw[Ag];omega) h)
    have hbad2:∀X,Eo (c::r) n 1 x0=some X→Du X≠(c::r).take (n+1)→q= .tup [A4,bv false]:=fun X a b=>hbad (uL hl (by rw[Ag];omega) a b)
    have hgood:∀X,Eo (c::r) n 1 x0=some X→Du X=(c::r).take (n+1)→_:=fun X a b=>uN h4 h5 h6 (by simp) (uM hl (by rw[Ag];omega) a b)
    have hcut:(s.drop i).take (i+n+1-i)=(c::r).take (n+1):=by
     rw[h4,List.drop_append_of_le_length (by omega),List.drop_of_length_le (by omega),List.nil_append];congr 1;omega
    rcases hcase with⟨rfl,c1,c2,c3⟩|⟨rfl,c1,c2,c3⟩|⟨rfl,c1,c2,c3⟩|⟨rfl,c1,c3⟩
    ·subst hz
     have gl:=gl _ rfl
     (repeat'((conv=>whnf);first|refine zP ?_|refine Ac ?_|refine Bc hx ?_|(with_reducible refine NInt.i64 ?_)|(refine Ai (fun hc hcP=> ?_) (fun hc hcP=> ?_)<;>try(exfalso;omega))));(all_goals(conv=>whnf))
     refine Ax (fun p:Nat×Nat=>1≤p.1∧p.1≤3+1∧p.2<256^p.1∧Eo (c::r) (3+1-p.1) p.1 p.2=Eo (c::r) 3 1 x0) (fun p=>4-p.1) (fun p=>⟨[(0,.d (.v (.string ⟨⟨s⟩⟩))),(4,Bx 4 1 3 Xy pre),(5,iv i),(6,iv p.2),(7,iv 3),(8,iv p.1)],[],[(4,(pre.length,1,3))]⟩) (1,x0) ⟨by simp,by simp,by simpa using hx0,rfl⟩ leQ ?_
     rintro⟨k,x⟩ ⟨k1,k2,k3,k4⟩
     simp only at k1 k2 k3 k4
     have k5:=Wt k3 (by omega)
     by_cases hk:k≤3
     ·obtain⟨d,hd⟩:∃d,(c::r)[k]?=some d:=⟨_,Am (by rw[Ag];omega)⟩
      have hy:=(hg k).trans hd
      have hdl:=d.toNat_lt
      have hgd:(c::r).getD k 0=d:=by rw[List.getD_eq_getElem?_getD,hd];rfl
      obtain⟨m,hm⟩:∃m,3+1-k=m+1:=⟨3-k,by omega⟩
      rw[hm] at k4
      by_cases hok:d.toNat<128∨192≤d.toNat
      ·obtain rfl:=hbad1 (by rw[←k4];exact R7 _ _ _ _ (by rw[hgd];exact hok))
       (repeat'((conv=>whnf);first|refine Ac ?_|refine Ae ?_|refine Bc hy ?_|(with_reducible refine NInt.i64 ?_)|(refine Ai (fun hc hcP=> ?_) (fun hc hcP=> ?_)<;>try(exfalso;omega))|exact zE))
      ·rw[Pr _ _ _ _ (by rw[hgd];omega) (by rw[hgd];omega),hgd] at k4
       (repeat'((conv=>whnf);first|refine Ae ?_|refine Bc hy ?_|(with_reducible refine NInt.i64 ?_)|(refine Ai (fun hc hcP=> ?_) (fun hc hcP=> ?_)<;>try(exfalso;omega))));(all_goals(conv=>whnf))
       refine⟨(k+1,x*64+d.toNat-128),⟨by show 1≤k+1;omega,by show k+1≤_;omega,by show _<256^(k+1);rw[Nat.pow_succ];omega,by show Eo _ (3+1-(k+1)) _ _=_;rw[show 3+1-(k+1)=m by omega];exact k4⟩,by show 4-(k+1)<4-k;omega,?_⟩
       exact leQ
     ·obtain rfl:k=3+1:=by omega
      rw[Nat.sub_self] at k4
      have k4:some x=_:=k4
      have hO:=E2 x (by omega)
      by_cases hoc:Du x=(c::r).take (3+1)
      ·obtain⟨a1,a2,a3,a4,a5⟩:=hgood x k4.symm hoc
       have hne:(!(Du x==(c::r).take (3+1)))=false:=by rw[hoc,beq_self_eq_true];rfl
       (repeat'((conv=>whnf);first|refine zN ?_|refine Ae ?_|refine Aa hO rfl ?_|(refine Ke i (i+3+1) _ hcut ?_)|refine A2 Xy x ?_|(with_reducible refine NInt.i64 ?_)|(with_reducible refine E4 ?_)|refine zF ?_));(all_goals(conv=>whnf))
       refine⟨(i+(3+1),pre++[x],(c::r).drop (3+1)),⟨by show _+List.length _=_;rw[Az,Ag];omega,by show List.length _≤_;simp;omega,by show _=i+(3+1);rw[a2];omega,a1,a3,a4⟩,by show List.length _<List.length _;rw[Az,Ag];omega,?_⟩
       exact leQ
      ·obtain rfl:=hbad2 x k4.symm hoc
       have hne:(!(Du x==(c::r).take (3+1)))=true:=by rw[beq_eq_false_iff_ne.2 hoc];rfl
       (repeat'((conv=>whnf);first|refine zP ?_|refine Ae ?_|refine Aa hO rfl ?_|(refine Ke i (i+3+1) _ hcut ?_)|(with_reducible refine NInt.i64 ?_)|(with_reducible refine E4 ?_)|refine zF ?_|exact zE))
    ·subst hz
     have gl:=gl _ rfl
     (repeat'((conv=>whnf);first|refine zP ?_|refine Ac ?_|refine Ae ?_|refine Bc hx ?_|(with_reducible refine NInt.i64 ?_)|(refine Ai (fun hc hcP=> ?_) (fun hc hcP=> ?_)<;>try(exfalso;omega))));(all_goals(conv=>whnf))
     refine Ax (fun p:Nat×Nat=>1≤p.1∧p.1≤2+1∧p.2<256^p.1∧Eo (c::r) (2+1-p.1) p.1 p.2=Eo (c::r) 2 1 x0) (fun p=>4-p.1) (fun p=>⟨[(0,.d (.v (.string ⟨⟨s⟩⟩))),(4,Bx 4 1 3 Xy pre),(5,iv i),(6,iv p.2),(7,iv 2),(8,iv p.1)],[],[(4,(pre.length,1,3))]⟩) (1,x0) ⟨by simp,by simp,by simpa using hx0,rfl⟩ leQ ?_
     rintro⟨k,x⟩ ⟨k1,k2,k3,k4⟩
     simp only at k1 k2 k3 k4
     have k5:=Wt k3 (by omega)
     by_cases hk:k≤2
     ·obtain⟨d,hd⟩:∃d,(c::r)[k]?=some d:=⟨_,Am (by rw[Ag];omega)⟩
      have hy:=(hg k).trans hd
      have hdl:=d.toNat_lt
      have hgd:(c::r).getD k 0=d:=by rw[List.getD_eq_getElem?_getD,hd];rfl
      obtain⟨m,hm⟩:∃m,2+1-k=m+1:=⟨2-k,by omega⟩
      rw[hm] at k4
      by_cases hok:d.toNat<128∨192≤d.toNat
      ·obtain rfl:=hbad1 (by rw[←k4];exact R7 _ _ _ _ (by rw[hgd];exact hok))
       (repeat'((conv=>whnf);first|refine Ac ?_|refine Ae ?_|refine Bc hy ?_|(with_reducible refine NInt.i64 ?_)|(refine Ai (fun hc hcP=> ?_) (fun hc hcP=> ?_)<;>try(exfalso;omega))|exact zE))
      ·rw[Pr _ _ _ _ (by rw[hgd];omega) (by rw[hgd];omega),hgd] at k4
       (repeat'((conv=>whnf);first|refine Ae ?_|refine Bc hy ?_|(with_reducible refine NInt.i64 ?_)|(refine Ai (fun hc hcP=> ?_) (fun hc hcP=> ?_)<;>try(exfalso;omega))));(all_goals(conv=>whnf))
       refine⟨(k+1,x*64+d.toNat-128),⟨by show 1≤k+1;omega,by show k+1≤_;omega,by show _<256^(k+1);rw[Nat.pow_succ];omega,by show Eo _ (2+1-(k+1)) _ _=_;rw[show 2+1-(k+1)=m by omega];exact k4⟩,by show 4-(k+1)<4-k;omega,?_⟩
       exact leQ
     ·obtain rfl:k=2+1:=by omega
      rw[Nat.sub_self] at k4
      have k4:some x=_:=k4
      have hO:=E2 x (by omega)
      by_cases hoc:Du x=(c::r).take (2+1)
      ·obtain⟨a1,a2,a3,a4,a5⟩:=hgood x k4.symm hoc
       have hne:(!(Du x==(c::r).take (2+1)))=false:=by rw[hoc,beq_self_eq_true];rfl
       (repeat'((conv=>whnf);first|refine zN ?_|refine Ae ?_|refine Aa hO rfl ?_|(refine Ke i (i+2+1) _ hcut ?_)|refine A2 Xy x ?_|(with_reducible refine NInt.i64 ?_)|(with_reducible refine E4 ?_)|refine zF ?_));(all_goals(conv=>whnf))
       refine⟨(i+(2+1),pre++[x],(c::r).drop (2+1)),⟨by show _+List.length _=_;rw[Az,Ag];omega,by show List.length _≤_;simp;omega,by show _=i+(2+1);rw[a2];omega,a1,a3,a4⟩,by show List.length _<List.length _;rw[Az,Ag];omega,?_⟩
       exact leQ
      ·obtain rfl:=hbad2 x k4.symm hoc
       have hne:(!(Du x==(c::r).take (2+1)))=true:=by rw[beq_eq_false_iff_ne.2 hoc];rfl
       (repeat'((conv=>whnf);first|refine zP ?_|refine Ae ?_|refine Aa hO rfl ?_|(refine Ke i (i+2+1) _ hcut ?_)|(with_reducible refine NInt.i64 ?_)|(with_reducible refine E4 ?_)|refine zF ?_|exact zE))
    ·subst hz
     have gl:=gl _ rfl
     (repeat'((conv=>whnf);first|refine zP ?_|refine Ac ?_|refine Ae ?_|refine Bc hx ?_|(with_reducible refine NInt.i64 ?_)|(refine Ai (fun hc hcP=> ?_) (fun hc hcP=> ?_)<;>try(exfalso;omega))));(all_goals(conv=>whnf))
     refine Ax (fun p:Nat×Nat=>1≤p.1∧p.1≤1+1∧p.2<256^p.1∧Eo (c::r) (1+1-p.1) p.1 p.2=Eo (c::r) 1 1 x0) (fun p=>4-p.1) (fun p=>⟨[(0,.d (.v (.string ⟨⟨s⟩⟩))),(4,Bx 4 1 3 Xy pre),(5,iv i),(6,iv p.2),(7,iv 1),(8,iv p.1)],[],[(4,(pre.length,1,3))]⟩) (1,x0) ⟨by simp,by simp,by simpa using hx0,rfl⟩ leQ ?_
     rintro⟨k,x⟩ ⟨k1,k2,k3,k4⟩
     simp only at k1 k2 k3 k4
     have k5:=Wt k3 (by omega)
     by_cases hk:k≤1
     ·obtain⟨d,hd⟩:∃d,(c::r)[k]?=some d:=⟨_,Am (by rw[Ag];omega)⟩
      have hy:=(hg k).trans hd
      have hdl:=d.toNat_lt
      have hgd:(c::r).getD k 0=d:=by rw[List.getD_eq_getElem?_getD,hd];rfl
      obtain⟨m,hm⟩:∃m,1+1-k=m+1:=⟨1-k,by omega⟩
      rw[hm] at k4
      by_cases hok:d.toNat<128∨192≤d.toNat
      ·obtain rfl:=hbad1 (by rw[←k4];exact R7 _ _ _ _ (by rw[hgd];exact hok))
       (repeat'((conv=>whnf);first|refine Ac ?_|refine Ae ?_|refine Bc hy ?_|(with_reducible refine NInt.i64 ?_)|(refine Ai (fun hc hcP=> ?_) (fun hc hcP=> ?_)<;>try(exfalso;omega))|exact zE))
      ·rw[Pr _ _ _ _ (by rw[hgd];omega) (by rw[hgd];omega),hgd] at k4
       (repeat'((conv=>whnf);first|refine Ae ?_|refine Bc hy ?_|(with_reducible refine NInt.i64 ?_)|(refine Ai (fun hc hcP=> ?_) (fun hc hcP=> ?_)<;>try(exfalso;omega))));(all_goals(conv=>whnf))
       refine⟨(k+1,x*64+d.toNat-128),⟨by show 1≤k+1;omega,by show k+1≤_;omega,by show _<256^(k+1);rw[Nat.pow_succ];omega,by show Eo _ (1+1-(k+1)) _ _=_;rw[show 1+1-(k+1)=m by omega];exact k4⟩,by show 4-(k+1)<4-k;omega,?_⟩
       exact leQ
     ·obtain rfl:k=1+1:=by omega
      rw[Nat.sub_self] at k4
      have k4:some x=_:=k4
      have hO:=E2 x (by omega)
      by_cases hoc:Du x=(c::r).take (1+1)
      ·obtain⟨a1,a2,a3,a4,a5⟩:=hgood x k4.symm hoc
       have hne:(!(Du x==(c::r).take (1+1)))=false:=by rw[hoc,beq_self_eq_true];rfl
       (repeat'((conv=>whnf);first|refine zN ?_|refine Ae ?_|refine Aa hO rfl ?_|(refine Ke i (i+1+1) _ hcut ?_)|refine A2 Xy x ?_|(with_reducible refine NInt.i64 ?_)|(with_reducible refine E4 ?_)|refine zF ?_));(all_goals(conv=>whnf))
       refine⟨(i+(1+1),pre++[x],(c::r).drop (1+1)),⟨by show _+List.length _=_;rw[Az,Ag];omega,by show List.length _≤_;simp;omega,by show _=i+(1+1);rw[a2];omega,a1,a3,a4⟩,by show List.length _<List.length _;rw[Az,Ag];omega,?_⟩
       exact leQ
      ·obtain rfl:=hbad2 x k4.symm hoc
       have hne:(!(Du x==(c::r).take (1+1)))=true:=by rw[beq_eq_false_iff_ne.2 hoc];rfl
       (repeat'((conv=>whnf);first|refine zP ?_|refine Ae ?_|refine Aa hO rfl ?_|(refine Ke i (i+1+1) _ hcut ?_)|(with_reducible refine NInt.i64 ?_)|(with_reducible refine E4 ?_)|refine zF ?_|exact zE))
    ·subst hz
     have gl:=gl _ rfl
     (repeat'((conv=>whnf);first|refine zP ?_|refine Ae ?_|refine Bc hx ?_|(with_reducible refine NInt.i64 ?_)|(refine Ai (fun hc hcP=> ?_) (fun hc hcP=> ?_)<;>try(exfalso;omega))));(all_goals(conv=>whnf))
     refine Ax (fun p:Nat×Nat=>1≤p.1∧p.1≤0+1∧p.2<256^p.1∧Eo (c::r) (0+1-p.1) p.1 p.2=Eo (c::r) 0 1 x0) (fun p=>4-p.1) (fun p=>⟨[(0,.d (.v (.string ⟨⟨s⟩⟩))),(4,Bx 4 1 3 Xy pre),(5,iv i),(6,iv p.2),(7,iv 0),(8,iv p.1)],[],[(4,(pre.length,1,3))]⟩) (1,x0) ⟨by simp,by simp,by simpa using hx0,rfl⟩ leQ ?_
     rintro⟨k,x⟩ ⟨k1,k2,k3,k4⟩
     simp only at k1 k2 k3 k4
     have k5:=Wt k3 (by omega)
     by_cases hk:k≤0
     ·omega
     ·obtain rfl:k=0+1:=by omega
      rw[Nat.sub_self] at k4
      have k4:some x=_:=k4
      have hO:=E2 x (by omega)
      by_cases hoc:Du x=(c::r).take (0+1)
      ·obtain⟨a1,a2,a3,a4,a5⟩:=hgood x k4.symm hoc
       have hne:(!(Du x==(c::r).take (0+1)))=false:=by rw[hoc,beq_self_eq_true];rfl
       (repeat'((conv=>whnf);first|refine zN ?_|refine Ae ?_|refine Aa hO rfl ?_|(refine Ke i (i+0+1) _ hcut ?_)|refine A2 Xy x ?_|(with_reducible refine NInt.i64 ?_)|(with_reducible refine E4 ?_)|refine zF ?_));(all_goals(conv=>whnf))
       refine⟨(i+(0+1),pre++[x],(c::r).drop (0+1)),⟨by show _+List.length _=_;rw[Az,Ag];omega,by show List.length _≤_;simp;omega,by show _=i+(0+1);rw[a2];omega,a1,a3,a4⟩,by show List.length _<List.length _;rw[Az,Ag];omega,?_⟩
       exact leQ
      ·obtain rfl:=hbad2 x k4.symm hoc
       have hne:(!(Du x==(c::r).take (0+1)))=true:=by rw[beq_eq_false_iff_ne.2 hoc];rfl
       (repeat'((conv=>whnf);first|refine zP ?_|refine Ae ?_|refine Aa hO rfl ?_|(refine Ke i (i+0+1) _ hcut ?_)|(with_reducible refine NInt.i64 ?_)|(with_reducible refine E4 ?_)|refine zF ?_|exact zE))
theorem BG:∀a:List Nat,a.length≤(a.flatMap enc).length
 |[]=>by simp
 |x::a=>by
  have:=(Gf x).1;have:=BG a
  rw[List.flatMap_cons,Ap,Ag];omega
theorem Q3 (l:List UInt8) (h:validD l=true):(rns l).length≤l.length:=by
 have:=BG (rns l);rw[Iz l h] at this;exact this
theorem H9 (k:Int) (s:List UInt8) (hs:s.length≤16777216):Ab Tryz.prog 169 [txA k s] (fun r=>r=bv (Aq k s)):=by
 have hP:=S5 s hs
 have hW:=Pq k
 cases hv:validD s
 ·rw[gO hv] at hP
  rw[T8 hv]
  clear hv
  refine acQ 34 Tryz.func169 rfl rfl fun _ _ _=> ?_
  (repeat'((conv=>whnf);first|refine Ac ?_|refine Aa hP rfl ?_|exact zE))
 ·rw[show Ws s= .tup [.d (uK true (rns s)),bv true] by unfold Ws;rw[if_pos hv]] at hP
  by_cases hk:Ar k<0
  ·rw[Md hk]
   have g:decide (Ar k<0)=true:=decide_eq_true hk
   clear hv
   refine acQ 34 Tryz.func169 rfl rfl fun _ _ _=> ?_
   (repeat'((conv=>whnf);first|refine zP ?_|refine Ae ?_|refine Aa hP rfl ?_|refine Aa hW rfl ?_|exact zE))
  ·have g:decide (Ar k<0)=false:=decide_eq_false hk
   have hsm:=rC s hv
   have hyes:=T9 (k:=k) (l:=s) hv hk
   have hlen:=Q3 s hv
   have hno:∀m,m<(rns s).length→B5 k ((rns s).getD m 0)=false→Aq k s=false:=fun m=>Si
   generalize Aq k s=q at hyes hno⊢
   generalize rns s=l at hP hsm hyes hno hlen⊢
   clear hv
   refine acQ 34 Tryz.func169 rfl rfl fun _ _ _=> ?_
   (repeat'((conv=>whnf);first|refine zN ?_|refine Ae ?_|refine Aa hP rfl ?_|refine Aa hW rfl ?_));(all_goals(conv=>whnf))
   refine Ax (fun i:Nat=>i≤l.length∧∀m,m<i→B5 k (l.getD m 0)=true) (fun i=>l.length-i) (fun i=>⟨[(1,.ptr 1 0),(3,.d (uK true l)),(5,iv i)],[(1,[iv k,.d (.v (.string ⟨⟨s⟩⟩))])],[]⟩) 0 ⟨by omega,fun m h=>by omega⟩ leQ ?_
   rintro i ⟨h1,h2⟩
   by_cases hil:i<l.length
   ·have gl:decide ((i:Int)<(l.length:Int))=true:=decide_eq_true (by omega)
    obtain⟨n,hn⟩:∃n,l[i]?=some n:=⟨_,Am hil⟩
    have hgd:l.getD i 0=n:=by rw[List.getD_eq_getElem?_getD,hn];rfl
    have hsn:=hsm i
    rw[hgd] at hsn
    have hH:=BD k (by omega) n (by omega)
    cases hh:B5 k n
    ·obtain rfl:=hno i hil (by rw[hgd];exact hh)
     rw[hh] at hH
     (repeat'((conv=>whnf);first|refine zP ?_|refine Ac ?_|refine NIdx.tab (fun _=>rfl) hn ?_|refine Aa hH rfl ?_|refine zF ?_|exact zE))
    ·rw[hh] at hH
     (repeat'((conv=>whnf);first|refine zP ?_|refine Ae ?_|refine NIdx.tab (fun _=>rfl) hn ?_|refine Aa hH rfl ?_|(with_reducible refine NInt.i64 ?_)|refine zF ?_));(all_goals(conv=>whnf))
     refine⟨i+1,⟨by omega,fun m hm=> ?_⟩,by omega,?_⟩
     ·by_cases hmi:m=i
      ·rw[hmi,hgd];exact hh
      ·exact h2 m (by omega)
     exact leQ
   ·have gl:decide ((i:Int)<(l.length:Int))=false:=decide_eq_false (by omega)
    obtain rfl:=hyes fun m hm=>h2 m (by omega)
    (repeat'((conv=>whnf);refine zN ?_));(all_goals(conv=>whnf))
    all_goals exact zE
theorem uO {f:Nat→List UInt8} {l:List Nat} {i n:Nat} (h:l[i]?=some n):(l.take (i+1)).flatMap f=(l.take i).flatMap f++f n:=by
 have hi:=(Aw.1 h).1
 rw[List.take_add_one,h,List.flatMap_append];simp
theorem M9 {f:Nat→List UInt8} {m:Nat} (hf:∀x,(f x).length≤m):∀l:List Nat,(l.flatMap f).length≤m*l.length
 |[]=>by simp
 |x::l=>by
  have:=hf x;have:=M9 hf l
  rw[List.flatMap_cons,Ap,Ag,Nat.mul_add];omega
theorem QH (n:Nat):Jl 1 n=[UInt8.ofNat n]:=by
 unfold Jl;rw[if_neg (by omega)];show [UInt8.ofNat (n/256^0)]=_;rw[Nat.pow_zero,Nat.div_one]
theorem QI (n:Nat):Jl 2 n=[UInt8.ofNat (n/256),UInt8.ofNat (n%256)]:=by
 unfold Jl;rw[if_neg (by omega)];show [UInt8.ofNat (n/256^1),UInt8.ofNat (n/256^0)]=_
 rw[Nat.pow_zero,Nat.div_one,Nat.pow_one,show UInt8.ofNat n=UInt8.ofNat (n%256) from(UInt8.toNat_inj.1 (by simp))]
theorem QJ (n:Nat) (h:n≤1114111):Jl 4 n=[0,UInt8.ofNat (n/65536),UInt8.ofNat (n/256%256),UInt8.ofNat (n%256)]:=by
 unfold Jl;rw[if_neg (by omega)];show [UInt8.ofNat (n/256^3),UInt8.ofNat (n/256^2),UInt8.ofNat (n/256^1),UInt8.ofNat (n/256^0)]=_
 rw[Nat.pow_zero,Nat.div_one,Nat.pow_one,show n/256^3=0 by omega,show UInt8.ofNat n=UInt8.ofNat (n%256) from(UInt8.toNat_inj.1 (by simp)),show UInt8.ofNat (n/256)=UInt8.ofNat (n/256%256) from(UInt8.toNat_inj.1 (by simp))]
 rfl
theorem Ha (k:Int) (s:List UInt8) (hs:s.length≤16777216):Ab Tryz.prog 135 [txA k s] (fun r=>r= .tup [.d (Af true (Fh k s)),iv (I2 k s)]):=by
 have hV:=H9 k s hs
 have hP:=S5 s hs
 have hW:=Pq k
 unfold Fh I2
 cases hv:Aq k s
 ·rw[hv] at hV
  refine acQ 85 Tryz.func135 rfl rfl fun _ _ _=> ?_
  (repeat'((conv=>whnf);first|refine Ac ?_|refine Aa hV rfl ?_|exact zE))
 ·rw[hv] at hV
  have hvD:validD s=true:=by unfold Aq at hv;simp at hv;exact hv.1.1
  have hk:¬Ar k<0:=by unfold Aq at hv;simp at hv;omega
  rw[show Ws s= .tup [.d (uK true (rns s)),bv true] by unfold Ws;rw[if_pos hvD]] at hP
  have hsc:∀x∈rns s,x≤1114111:=fun x hx=>by have:=(C3 x).1 (Km s hvD x hx);omega
  have hlen:=Q3 s hvD
  rw[if_pos rfl,if_pos rfl,←Ko hv]
  have hw3:Ar k=0∨Ar k=1∨Ar k=2∨Ar k=4:=by
   rcases Dl k hk with rfl|rfl|rfl|rfl|rfl|rfl|rfl<;>simp[Ar]
  generalize rns s=l at hP hsc hlen⊢
  generalize Ar k=W at hW hw3⊢
  clear hv hvD hk
  have hfl:∀i,((l.take i).flatMap (Jl W)).length≤4*(l.take i).length:=fun i=>M9 (fun x=>Me W x (by omega)) _
  refine acQ 85 Tryz.func135 rfl rfl fun _ _ _=> ?_
  (repeat'((conv=>whnf);first|refine Ae ?_|refine Aa hV rfl ?_|refine Aa hP rfl ?_));(all_goals(conv=>whnf))
  refine A5 [.s 6 1 5] (fun i:Nat=>i≤l.length) (fun i=>l.length-i) (fun i=>⟨[(1,.ptr 1 0),(4,.d (uK true l)),(6,Bb 6 5 ((l.take i).flatMap (Jl W))),(7,iv i)],[(1,[iv k,.d (.v (.string ⟨⟨s⟩⟩))])],[(6,(((l.take i).flatMap (Jl W)).length,1,5))]⟩) 0 (by omega) leQ ?_
  rintro i h1
  have hfi:=hfl i
  rw[Al] at hfi
  by_cases hil:i<l.length
  ·have gl:decide ((i:Int)<(l.length:Int))=true:=decide_eq_true (by omega)
   obtain⟨n,hn⟩:∃n,l[i]?=some n:=⟨_,Am hil⟩
   have hnb:=hsc n (A8 hn)
   have hO:=E2 n (by omega)
   have e1:=uO (f:=Jl W) hn
   have ol:=Ri n
   generalize hq:(l.take i).flatMap (Jl W)=Q at hfi e1⊢
   rcases hw3 with rfl|rfl|rfl|rfl
   ·rw[show Jl 0 n=Du n from rfl] at e1
    (repeat'((conv=>whnf);first|refine zP ?_|refine Ac ?_|refine Aa hW rfl ?_|refine NIdx.tab (fun _=>rfl) hn ?_|refine Aa hO rfl ?_|(with_reducible refine NInt.i64 ?_)|(with_reducible refine NApp.bytes ?_)));(all_goals(conv=>whnf))
    refine⟨i+1,by omega,by omega,?_⟩
    rw[e1]
    exact leQ
   ·rw[QH] at e1
    (repeat'((conv=>whnf);first|refine zP ?_|refine Ac ?_|refine Ae ?_|refine Aa hW rfl ?_|refine NIdx.tab (fun _=>rfl) hn ?_|(with_reducible refine Bi (n) ?_)|refine Is ((UInt8.ofNat n)) ?_|(with_reducible refine NInt.i64 ?_)));(all_goals(conv=>whnf))
    refine⟨i+1,by omega,by omega,?_⟩
    rw[e1]
    exact leQ
   ·rw[QI] at e1
    (repeat'((conv=>whnf);first|refine zP ?_|refine Ac ?_|refine Ae ?_|refine Aa hW rfl ?_|refine NIdx.tab (fun _=>rfl) hn ?_|(with_reducible refine Bi (n/256) ?_)|(with_reducible refine Bi (n%256) ?_)|(refine H3 (Q++[UInt8.ofNat (n/256),UInt8.ofNat (n%256)]).length (Ak (Q++[UInt8.ofNat (n/256),UInt8.ofNat (n%256)])) ?_ rfl (by omega) (by rw[Ap];rfl) (by rw[H2];rfl))|(with_reducible refine NInt.i64 ?_)|(with_reducible refine Bz ?_)|(with_reducible refine Bh ?_)|refine zF ?_|refine Au (by first|decide|omega|(simp only[Ag,List.length_nil];omega)) ?_));(all_goals(conv=>whnf))
    refine⟨i+1,by omega,by omega,?_⟩
    rw[e1]
    exact leQ
   ·rw[QJ n hnb] at e1
    (repeat'((conv=>whnf);first|refine zP ?_|refine Ae ?_|refine Aa hW rfl ?_|refine NIdx.tab (fun _=>rfl) hn ?_|(with_reducible refine Bi (n/65536) ?_)|(with_reducible refine Bi (n/256%256) ?_)|(with_reducible refine Bi (n%256) ?_)|(refine H3 (Q++[0,UInt8.ofNat (n/65536),UInt8.ofNat (n/256%256),UInt8.ofNat (n%256)]).length (Ak (Q++[0,UInt8.ofNat (n/65536),UInt8.ofNat (n/256%256),UInt8.ofNat (n%256)])) ?_ rfl (by omega) (by rw[Ap];rfl) (by rw[H2];rfl))|(with_reducible refine NInt.i64 ?_)|(with_reducible refine Bz ?_)|(with_reducible refine Bh ?_)|refine zF ?_|refine Au (by first|decide|omega|(simp only[Ag,List.length_nil];omega)) ?_));(all_goals(conv=>whnf))
    refine⟨i+1,by omega,by omega,?_⟩
    rw[e1]
    exact leQ
  ·have gl:decide ((i:Int)<(l.length:Int))=false:=decide_eq_false (by omega)
   rw[List.take_of_length_le (by omega)]
   (repeat'((conv=>whnf);refine zN ?_));(all_goals(conv=>whnf))
   all_goals exact zE
theorem Io (k:Int) (c:List UInt8) (hl:c.length≤1000000):Ab Tryz.prog 121 [iv k,.d (Af false c)] (fun r=>r= .tup [txA (Fl k c) (Cu k c),iv (D7 k c)]):=by
 have hW:=Pq k
 have hbl:=vU k c hl
 by_cases hk:Ar k<0
 ·have g:decide (Ar k<0)=true:=decide_eq_true hk
  unfold Fl Cu D7
  rw[if_pos hk,if_pos hk,if_pos hk]
  refine acQ 75 Tryz.func121 rfl rfl fun _ _ _=> ?_
  (repeat'((conv=>whnf);first|refine zP ?_|refine Aa hW rfl ?_|exact zE))
 ·have g:decide (Ar k<0)=false:=decide_eq_false hk
  have hE:=Ha k (Fp k c) (by omega)
  have hW4:Ar k≤4:=by rcases Dl k hk with rfl|rfl|rfl|rfl|rfl|rfl|rfl<;>simp[Ar]
  by_cases h0:Ar k=0
  ·have hB:Fp k c=c:=by unfold Fp;rw[if_pos h0]
   rw[hB] at hE
   rw[h0] at hW
   refine acQ 75 Tryz.func121 rfl rfl fun _ _ _=> ?_
   (repeat'((conv=>whnf);first|refine Ac ?_|refine Ae ?_|refine Aa hW rfl ?_|(with_reducible refine Mo ?_)));(all_goals(conv=>whnf))
   refine Ax (fun _:Nat=>True) (fun _=>0) (fun _=>⟨[(0,iv k),(1,.d (Af false c)),(4,.ptr 4 0),(6,iv 0),(7,Bb 23 5 c),(8,iv 0)],[(4,[iv 0,sx []])],[(23,(c.length,1,5))]⟩) 0 trivial leQ ?_
   rintro- -
   cases hv:Aq k c
   ·rw[show Fh k c=[] by unfold Fh;rw[hv];rfl,show I2 k c=8 by unfold I2;rw[hv];rfl] at hE
    have hok:okD k c=false:=by unfold okD;rw[hB,hv];rfl
    rw[show Fl k c=0 by unfold Fl;rw[if_neg hk,hok];rfl,show Cu k c=[] by unfold Cu;rw[if_neg hk,hok];rfl,show D7 k c=6 by unfold D7;rw[if_neg hk,hok];rfl]
    clear hv hok
    (repeat'((conv=>whnf);first|refine Ac ?_|refine Ae ?_|refine Aa hE rfl ?_|(with_reducible refine E4 ?_)|exact zE))
   ·rw[show Fh k c=chS k c by unfold Fh;rw[hv];rfl,show I2 k c=0 by unfold I2;rw[hv];rfl] at hE
    have hQ:=Cw false false (chS k c) c (by have:=M9 (f:=Jl (Ar k)) (m:=4) (fun x=>Me _ x hW4) (rns c);rw[Ko hv] at this;have:=Q3 c (by unfold Aq at hv;simp at hv;exact hv.1.1);omega) (by omega)
    have hok:okD k c=(chS k c==c):=by unfold okD;rw[hB,hv,Bool.true_and]
    generalize chS k c=ch at hE hQ hok
    cases hq:ch==c
    ·rw[hq] at hQ hok
     rw[show Fl k c=0 by unfold Fl;rw[if_neg hk,hok];rfl,show Cu k c=[] by unfold Cu;rw[if_neg hk,hok];rfl,show D7 k c=6 by unfold D7;rw[if_neg hk,hok];rfl]
     clear hv hok hq
     (repeat'((conv=>whnf);first|refine Ac ?_|refine Ae ?_|refine Aa hE rfl ?_|refine Aa hQ gvQ ?_|(with_reducible refine E4 ?_)|exact zE))
    ·rw[hq] at hQ hok
     rw[show Fl k c=k by unfold Fl;rw[if_neg hk,if_pos hok],show Cu k c=c by unfold Cu;rw[if_neg hk,if_pos hok,hB],show D7 k c=0 by unfold D7;rw[if_neg hk,if_pos hok]]
     clear hv hok hq
     (repeat'((conv=>whnf);first|refine Ae ?_|refine Aa hE rfl ?_|refine Aa hQ gvQ ?_|(with_reducible refine E4 ?_)|exact zE))
  ·obtain⟨N,hN,hN1⟩:∃N:Nat,Ar k=(N:Int)∧1≤N:=⟨(Ar k).toNat,by omega,by omega⟩
   have hN4:N≤4:=by omega
   have hB:Fp k c=Ec N c (c.length/N):=by unfold Fp;rw[if_neg h0,hN];rfl
   have g0:decide ((N:Int)>0)=true:=decide_eq_true (by omega)
   have g1:((N:Int)==0)=false:=beq_eq_false_iff_ne.2 (by omega)
   have g2:decide ((N:Int)<0)=false:=decide_eq_false (by omega)
   rw[hB] at hE hbl
   rw[hN] at hW
   refine acQ 75 Tryz.func121 rfl rfl fun _ _ _=> ?_
   (repeat'((conv=>whnf);first|refine zN ?_|refine Aa hW rfl ?_));(all_goals(conv=>whnf))
   refine A5 [.s 7 1 5] (fun j:Nat=>j*N≤c.length) (fun j=>c.length-j*N) (fun j=>⟨[(0,iv k),(1,.d (Af false c)),(4,.ptr 4 0),(6,iv N),(7,Bb 7 5 (Ec N c j)),(8,iv (j*N:Nat))],[(4,[iv 0,sx []])],[(7,((Ec N c j).length,1,5))]⟩) 0 (by omega) leQ ?_
   rintro j hj
   generalize hi:j*N=i at hj⊢
   have hul:=Jt N c j
   have hjl:j≤c.length:=Nat.le_trans (by rw[←Nat.mul_one j];exact Nat.le_trans (Nat.mul_le_mul_left j hN1) (by omega)) hj
   by_cases hmore:i+N≤c.length
   ·have g3:decide ((i:Int)+(N:Int)≤(c.length:Int))=true:=decide_eq_true (by omega)
    (repeat'((conv=>whnf);first|refine zP ?_|refine Ac ?_|(with_reducible refine NInt.i64 ?_)));(all_goals(conv=>whnf))
    refine Ax (fun p:Nat×Nat=>p.1≤N∧p.2<256^p.1∧p.2=Dk c i p.1) (fun p=>N-p.1) (fun p=>⟨[(0,iv k),(1,.d (Af false c)),(4,.ptr 4 0),(6,iv N),(7,Bb 7 5 (Ec N c j)),(8,iv i),(9,iv p.2),(10,iv p.1)],[(4,[iv 0,sx []])],[(7,((Ec N c j).length,1,5))]⟩) (0,0) ⟨by simp,by simp,rfl⟩ leQ ?_
    rintro⟨q,x⟩ ⟨q1,q2,q3⟩
    simp only at q1 q2 q3
    have q5:=Wt q2 (by omega)
    by_cases hqn:q<N
    ·have g4:decide ((q:Int)<(N:Int))=true:=decide_eq_true (by omega)
     obtain⟨d,hd⟩:∃d,c[i+q]?=some d:=⟨_,Am (by omega)⟩
     have hdl:=d.toNat_lt
     have hgd:(c.getD (i+q) 0)=d:=by rw[List.getD_eq_getElem?_getD,hd];rfl
     (repeat'((conv=>whnf);first|refine zP ?_|refine NIdx.bytes hd ?_|(with_reducible refine NInt.i64 ?_)));(all_goals(conv=>whnf))
     refine⟨(q+1,x*256+d.toNat),⟨by show q+1≤N;omega,by show _<256^(q+1);rw[Nat.pow_succ];omega,by show _=Dk c i q*256+(c.getD (i+q) 0).toNat;rw[hgd,q3]⟩,by show N-(q+1)<N-q;omega,?_⟩
     exact leQ
    ·have g4:decide ((q:Int)<(N:Int))=false:=decide_eq_false (by omega)
     obtain rfl:q=N:=by omega
     have hO:=E2 x (by omega)
     have ol:=Ri x
     have e1:Ec q c (j+1)=Ec q c j++Du x:=by rw[P1,q3,hi]
     generalize hU:Ec q c j=U at hul e1⊢
     (repeat'((conv=>whnf);first|refine zN ?_|refine Aa hO rfl ?_|(with_reducible refine NInt.i64 ?_)|(with_reducible refine NApp.bytes ?_)));(all_goals(conv=>whnf))
     refine⟨j+1,by rw[Nat.succ_mul];omega,by rw[Nat.succ_mul];omega,?_⟩
     rw[e1]
     rw[Nat.succ_mul,hi]
     exact leQ
   ·have g3:decide ((i:Int)+(N:Int)≤(c.length:Int))=false:=decide_eq_false (by omega)
    have hjd:c.length/N=j:=by
     rw[Nat.div_eq_iff (by omega)]
     constructor
     ·omega
     ·omega
    rw[hjd] at hB hE hbl
    generalize Ec N c j=U at hB hE hbl hul⊢
    cases hv:Aq k U
    ·rw[show Fh k U=[] by unfold Fh;rw[hv];rfl,show I2 k U=8 by unfold I2;rw[hv];rfl] at hE
     have hok:okD k c=false:=by unfold okD;rw[hB,hv];rfl
     rw[show Fl k c=0 by unfold Fl;rw[if_neg hk,hok];rfl,show Cu k c=[] by unfold Cu;rw[if_neg hk,hok];rfl,show D7 k c=6 by unfold D7;rw[if_neg hk,hok];rfl]
     clear hv hok
     (repeat'((conv=>whnf);first|refine zP ?_|refine zN ?_|refine Ac ?_|refine Aa hE rfl ?_|(with_reducible refine NInt.i64 ?_)|(with_reducible refine E4 ?_)|exact zE))
    ·rw[show Fh k U=chS k U by unfold Fh;rw[hv];rfl,show I2 k U=0 by unfold I2;rw[hv];rfl] at hE
     have hQ:=Cw false false (chS k U) c (by have:=M9 (f:=Jl (Ar k)) (m:=4) (fun x=>Me _ x hW4) (rns U);rw[Ko hv] at this;have:=Q3 U (by unfold Aq at hv;simp at hv;exact hv.1.1);omega) (by omega)
     have hok:okD k c=(chS k U==c):=by unfold okD;rw[hB,hv,Bool.true_and]
     generalize chS k U=ch at hE hQ hok
     cases hq:ch==c
     ·rw[hq] at hQ hok
      rw[show Fl k c=0 by unfold Fl;rw[if_neg hk,hok];rfl,show Cu k c=[] by unfold Cu;rw[if_neg hk,hok];rfl,show D7 k c=6 by unfold D7;rw[if_neg hk,hok];rfl]
      clear hv hok hq
      (repeat'((conv=>whnf);first|refine zP ?_|refine zN ?_|refine Ac ?_|refine Ae ?_|refine Aa hE rfl ?_|refine Aa hQ gvQ ?_|(with_reducible refine NInt.i64 ?_)|(with_reducible refine E4 ?_)|exact zE))
     ·rw[hq] at hQ hok
      rw[show Fl k c=k by unfold Fl;rw[if_neg hk,if_pos hok],show Cu k c=U by unfold Cu;rw[if_neg hk,if_pos hok,hB],show D7 k c=0 by unfold D7;rw[if_neg hk,if_pos hok]]
      clear hv hok hq
      (repeat'((conv=>whnf);first|refine zP ?_|refine zN ?_|refine Ac ?_|refine Ae ?_|refine Aa hE rfl ?_|refine Aa hQ gvQ ?_|(with_reducible refine NInt.i64 ?_)|(with_reducible refine E4 ?_)|exact zE))
end Go.Proofs.YtokmjjkbginodaaGreatDoor
