/- MQ: the texts Oct Pts Val7, one behind the other. No condition but what each lemma says. -/
import Derived.Test.YtjakkpcpommojaaGreatDoorMC
import Derived.Test.YtjakkpcpommojaaGreatDoorGCsPl
import Derived.Test.YtjakkpcpommojaaGreatDoorMI
import Derived.Test.YtjakkpcpommojaaGreatDoorME
set_option maxRecDepth 100000
set_option maxHeartbeats 16000000
namespace Go.Proofs.YtjakkpcpommojaaGreatDoor
open Go.RowKit
theorem E5 (x:Nat) (hx:x≤1099511627776):Ab Tryz.prog 134 [iv x] (fun r=>r= .d (Ag true (Db x))):=by
 have g0:decide ((x:Int)<0)=false:=decide_eq_false (by omega)
 by_cases h1:x>1114111
 ·have g1:decide ((x:Int)>1114111)=true:=decide_eq_true (by omega)
  have hs:Em x=false:=by rw[Bool.eq_false_iff,Ne,Cn];omega
  rw[Db,if_neg (by simp[hs])]
  clear hs
  refine acQ 68 Tryz.func134 rfl rfl fun _ _ _=> ?_
  (repeat'((conv=>whnf);first|refine zP ?_|refine zN ?_|refine Ac ?_|refine Ae ?_|exact zE))
 ·have g1:decide ((x:Int)>1114111)=false:=decide_eq_false (by omega)
  by_cases h2:x≥55296∧x<57344
  ·have g2:decide ((x:Int)≥55296)=true:=decide_eq_true (by omega)
   have g3:decide ((x:Int)<57344)=true:=decide_eq_true (by omega)
   have hs:Em x=false:=by rw[Bool.eq_false_iff,Ne,Cn];omega
   rw[Db,if_neg (by simp[hs])]
   clear hs h2
   refine acQ 68 Tryz.func134 rfl rfl fun _ _ _=> ?_
   (repeat'((conv=>whnf);first|refine zP ?_|refine zN ?_|refine Ac ?_|refine Ae ?_|exact zE))
  ·have hs:Em x=true:=by rw[Cn];omega
   rw[Db,if_pos hs]
   clear hs
   have e:enc x=(Lg x).map UInt8.ofNat:=rfl
   by_cases k1:x<128
   ·have g2:decide ((x:Int)≥55296)=false:=decide_eq_false (by omega)
    have g4:decide ((x:Int)<128)=true:=decide_eq_true (by omega)
    rw[Lg,if_pos k1] at e
    rw[e]
    refine acQ 68 Tryz.func134 rfl rfl fun _ _ _=> ?_
    (repeat'((conv=>whnf);first|refine zP ?_|refine zN ?_|refine Ae ?_|(with_reducible refine Bd (x) ?_)));(all_goals(conv=>whnf))
    all_goals(refine B7 rfl (?_:_=_);try simp only[AV.dat])
    all_goals rfl
   ·have g4:decide ((x:Int)<128)=false:=decide_eq_false (by omega)
    rw[Lg,if_neg k1] at e
    by_cases k2:x<2048
    ·have g2:decide ((x:Int)≥55296)=false:=decide_eq_false (by omega)
     have g5:decide ((x:Int)<2048)=true:=decide_eq_true (by omega)
     rw[if_pos k2] at e
     rw[e]
     refine acQ 68 Tryz.func134 rfl rfl fun _ _ _=> ?_
     (repeat'((conv=>whnf);first|refine zP ?_|refine zN ?_|refine Ae ?_|(with_reducible refine Bd (192+x/64) ?_)|(with_reducible refine Bd (128+x%64) ?_)|(with_reducible refine NInt.i64 ?_)|(with_reducible refine B5 ?_)|(with_reducible refine Bh ?_)|refine Ar (by first|decide|omega|(simp only[List.length_cons,List.length_nil];omega)) ?_));(all_goals(conv=>whnf))
     all_goals(refine B7 rfl (?_:_=_);try simp only[AV.dat])
     all_goals rfl
    ·have g5:decide ((x:Int)<2048)=false:=decide_eq_false (by omega)
     rw[if_neg k2] at e
     by_cases k3:x<65536
     ·have g6:decide ((x:Int)<65536)=true:=decide_eq_true (by omega)
      rw[if_pos k3] at e
      rw[e]
      by_cases d:x≥55296
      ·have g2:decide ((x:Int)≥55296)=true:=decide_eq_true (by omega)
       have g3:decide ((x:Int)<57344)=false:=decide_eq_false (by omega)
       refine acQ 68 Tryz.func134 rfl rfl fun _ _ _=> ?_
       (repeat'((conv=>whnf);first|refine zP ?_|refine zN ?_|refine Ac ?_|refine Ae ?_|(with_reducible refine Bd (224+x/4096) ?_)|(with_reducible refine Bd (128+x/64%64) ?_)|(with_reducible refine Bd (128+x%64) ?_)|(with_reducible refine NInt.i64 ?_)|(with_reducible refine B5 ?_)|(with_reducible refine Bh ?_)|refine Ar (by first|decide|omega|(simp only[List.length_cons,List.length_nil];omega)) ?_));(all_goals(conv=>whnf))
       all_goals(refine B7 rfl (?_:_=_);try simp only[AV.dat])
       all_goals rfl
      ·have g2:decide ((x:Int)≥55296)=false:=decide_eq_false (by omega)
       refine acQ 68 Tryz.func134 rfl rfl fun _ _ _=> ?_
       (repeat'((conv=>whnf);first|refine zP ?_|refine zN ?_|refine Ae ?_|(with_reducible refine Bd (224+x/4096) ?_)|(with_reducible refine Bd (128+x/64%64) ?_)|(with_reducible refine Bd (128+x%64) ?_)|(with_reducible refine NInt.i64 ?_)|(with_reducible refine B5 ?_)|(with_reducible refine Bh ?_)|refine Ar (by first|decide|omega|(simp only[List.length_cons,List.length_nil];omega)) ?_));(all_goals(conv=>whnf))
       all_goals(refine B7 rfl (?_:_=_);try simp only[AV.dat])
       all_goals rfl
     ·have g6:decide ((x:Int)<65536)=false:=decide_eq_false (by omega)
      have g2:decide ((x:Int)≥55296)=true:=decide_eq_true (by omega)
      have g3:decide ((x:Int)<57344)=false:=decide_eq_false (by omega)
      rw[if_neg k3] at e
      rw[e]
      refine acQ 68 Tryz.func134 rfl rfl fun _ _ _=> ?_
      (repeat'((conv=>whnf);first|refine zP ?_|refine zN ?_|refine Ac ?_|refine Ae ?_|(with_reducible refine Bd (240+x/262144) ?_)|(with_reducible refine Bd (128+x/4096%64) ?_)|(with_reducible refine Bd (128+x/64%64) ?_)|(with_reducible refine Bd (128+x%64) ?_)|(with_reducible refine NInt.i64 ?_)|(with_reducible refine B5 ?_)|(with_reducible refine Bh ?_)|refine Ar (by first|decide|omega|(simp only[List.length_cons,List.length_nil];omega)) ?_));(all_goals(conv=>whnf))
      all_goals(refine B7 rfl (?_:_=_);try simp only[AV.dat])
      all_goals rfl
theorem U3 (k:Int):Ab Tryz.prog 133 [iv k] (fun r=>r=iv (Ao k)):=by
 have hc:∀c:Int,k=c∨k≠c:=fun c=>by omega
 rcases hc 12 with rfl|n1
 ·refine acQ 15 Tryz.func133 rfl rfl fun _ _ _=> ?_
  (repeat'((conv=>whnf);refine Ac ?_));(all_goals(conv=>whnf))
  all_goals exact zE
 rcases hc 28 with rfl|n2
 ·refine acQ 15 Tryz.func133 rfl rfl fun _ _ _=> ?_
  (repeat'((conv=>whnf);first|refine Ac ?_|refine Ae ?_|exact zE))
 rcases hc 30 with rfl|n3
 ·refine acQ 15 Tryz.func133 rfl rfl fun _ _ _=> ?_
  (repeat'((conv=>whnf);first|refine Ac ?_|refine Ae ?_|exact zE))
 rcases hc 19 with rfl|n4
 ·refine acQ 15 Tryz.func133 rfl rfl fun _ _ _=> ?_
  (repeat'((conv=>whnf);first|refine Ac ?_|refine Ae ?_|exact zE))
 rcases hc 20 with rfl|n5
 ·refine acQ 15 Tryz.func133 rfl rfl fun _ _ _=> ?_
  (repeat'((conv=>whnf);first|refine Ac ?_|refine Ae ?_|exact zE))
 rcases hc 22 with rfl|n6
 ·refine acQ 15 Tryz.func133 rfl rfl fun _ _ _=> ?_
  (repeat'((conv=>whnf);first|refine Ac ?_|refine Ae ?_|exact zE))
 rcases hc 26 with rfl|n7
 ·refine acQ 15 Tryz.func133 rfl rfl fun _ _ _=> ?_
  (repeat'((conv=>whnf);first|refine Ac ?_|refine Ae ?_|exact zE))
 have g1:(k==12)=false:=beq_eq_false_iff_ne.2 n1
 have g2:(k==28)=false:=beq_eq_false_iff_ne.2 n2
 have g3:(k==30)=false:=beq_eq_false_iff_ne.2 n3
 have g4:(k==19)=false:=beq_eq_false_iff_ne.2 n4
 have g5:(k==20)=false:=beq_eq_false_iff_ne.2 n5
 have g6:(k==22)=false:=beq_eq_false_iff_ne.2 n6
 have g7:(k==26)=false:=beq_eq_false_iff_ne.2 n7
 have e:Ao k= -1:=by
  unfold Ao
  rw[if_neg n1,if_neg n2,if_neg n3,if_neg (by omega)]
 rw[e]
 refine acQ 15 Tryz.func133 rfl rfl fun _ _ _=> ?_
 (repeat'((conv=>whnf);refine zN ?_));(all_goals(conv=>whnf))
 all_goals exact zE
def U4:List UInt8:=[32,39,40,41,43,44,45,46,47,58,61,63]
theorem EE {x i:Nat} {c:UInt8} (h:U4[i]?=some c) (e:c.toNat=x):oth.contains x=true:=by
 have h1:∀c∈U4,oth.contains c.toNat=true:=by decide+kernel
 rw[←e];exact h1 c (List.mem_of_getElem? h)
theorem JE {x:Nat} (h:∀(m:Nat) (c:UInt8),U4[m]?=some c→c.toNat≠x):oth.contains x=false:=by
 rw[Bool.eq_false_iff];intro hc
 have h1:∀y∈oth,∃c∈U4,c.toNat=y:=by decide+kernel
 obtain⟨c,hc',e⟩:=h1 x (by simpa using hc)
 obtain⟨m,hm⟩:=List.getElem?_of_mem hc'
 exact h m c hm e
theorem eQ (k:Int) (hk:k=12∨k=28) (x:Nat) (hx:x≤1099511627776):Ab Tryz.prog 137 [iv k,iv x] (fun r=>r=bv (Bp k x)):=by
 have hO:=E5 x hx
 have e:Bp k x=decide (((Db x).length:Int)>0):=by
  unfold Bp;rw[if_pos hk]
  cases hs:Em x
  ·have:Db x=[]:=by unfold Db;rw[if_neg (by simp[hs])]
   rw[this];rfl
  ·obtain⟨m,hm⟩:=Oj x hs
   rw[hm];exact(decide_eq_true (by omega)).symm
 rw[e]
 rcases hk with rfl|rfl
 ·refine acQ 93 Tryz.func137 rfl rfl fun _ _ _=> ?_
  (repeat'((conv=>whnf);first|refine Ac ?_|refine Aa hO rfl ?_|exact zE))
 ·refine acQ 93 Tryz.func137 rfl rfl fun _ _ _=> ?_
  (repeat'((conv=>whnf);first|refine Ac ?_|refine Ae ?_|refine Aa hO rfl ?_|exact zE))
theorem yA (x:Nat) (hx:x≤1099511627776):Ab Tryz.prog 137 [iv 30,iv x] (fun r=>r=bv (Bp 30 x)):=by
 have hO:=E5 x hx
 have e:Bp 30 x=(Em x&&decide (x<65536)):=rfl
 cases hs:Em x
 ·have ho:Db x=[]:=by unfold Db;rw[if_neg (by simp[hs])]
  rw[e,hs,Bool.false_and]
  rw[ho] at hO
  clear hs
  refine acQ 93 Tryz.func137 rfl rfl fun _ _ _=> ?_
  (repeat'((conv=>whnf);first|refine Ac ?_|refine Ae ?_|refine Aa hO rfl ?_|exact zE))
 ·obtain⟨m,hm⟩:=Oj x hs
  have g:decide (((Db x).length:Int)>0)=true:=decide_eq_true (by omega)
  rw[e,hs,Bool.true_and,show decide (x<65536)=decide ((x:Int)<65536) from decide_eq_decide.2 (by omega)]
  clear hs
  refine acQ 93 Tryz.func137 rfl rfl fun _ _ _=> ?_
  (repeat'((conv=>whnf);first|refine zP ?_|refine Ac ?_|refine Ae ?_|refine Aa hO rfl ?_|exact zE))
theorem yB (x:Nat):Ab Tryz.prog 137 [iv 22,iv x] (fun r=>r=bv (Bp 22 x)):=by
 have g:decide ((x:Int)≥0)=true:=decide_eq_true (by omega)
 rw[show Bp 22 x=decide ((x:Int)<128) from(show Bp 22 x=decide (x<128) from rfl).trans (decide_eq_decide.2 (by omega))]
 refine acQ 93 Tryz.func137 rfl rfl fun _ _ _=> ?_
 (repeat'((conv=>whnf);first|refine zP ?_|refine Ac ?_|refine Ae ?_|exact zE))
theorem yC (x:Nat):Ab Tryz.prog 137 [iv 26,iv x] (fun r=>r=bv (Bp 26 x)):=by
 have e:Bp 26 x=decide (32≤x∧x<127):=rfl
 by_cases d:x≥32
 ·have g:decide ((x:Int)≥32)=true:=decide_eq_true (by omega)
  rw[e,show decide (32≤x∧x<127)=decide ((x:Int)<127) from decide_eq_decide.2 (by omega)]
  refine acQ 93 Tryz.func137 rfl rfl fun _ _ _=> ?_
  (repeat'((conv=>whnf);first|refine zP ?_|refine Ac ?_|refine Ae ?_|exact zE))
 ·have g:decide ((x:Int)≥32)=false:=decide_eq_false (by omega)
  rw[e,show decide (32≤x∧x<127)=false from decide_eq_false (by omega)]
  refine acQ 93 Tryz.func137 rfl rfl fun _ _ _=> ?_
  (repeat'((conv=>whnf);first|refine zN ?_|refine Ac ?_|refine Ae ?_|exact zE))
theorem yD (x:Nat):Ab Tryz.prog 137 [iv 20,iv x] (fun r=>r=bv (Bp 20 x)):=by
 have e:Bp 20 x=decide ((32≤x∧x<127)∨(160≤x∧x<256)):=rfl
 by_cases d:x≥160
 ·have g1:decide ((x:Int)≥32)=true:=decide_eq_true (by omega)
  have g2:decide ((x:Int)<127)=false:=decide_eq_false (by omega)
  have g3:decide ((x:Int)≥160)=true:=decide_eq_true (by omega)
  rw[e,show decide ((32≤x∧x<127)∨(160≤x∧x<256))=decide ((x:Int)<256) from decide_eq_decide.2 (by omega)]
  refine acQ 93 Tryz.func137 rfl rfl fun _ _ _=> ?_
  (repeat'((conv=>whnf);first|refine zP ?_|refine zN ?_|refine Ac ?_|refine Ae ?_|exact zE))
 ·have g3:decide ((x:Int)≥160)=false:=decide_eq_false (by omega)
  by_cases d1:32≤x∧x<127
  ·have g1:decide ((x:Int)≥32)=true:=decide_eq_true (by omega)
   have g2:decide ((x:Int)<127)=true:=decide_eq_true (by omega)
   rw[e,show decide ((32≤x∧x<127)∨(160≤x∧x<256))=true from decide_eq_true (by omega)]
   refine acQ 93 Tryz.func137 rfl rfl fun _ _ _=> ?_
   (repeat'((conv=>whnf);first|refine zP ?_|refine Ac ?_|refine Ae ?_|exact zE))
  ·rw[e,show decide ((32≤x∧x<127)∨(160≤x∧x<256))=false from decide_eq_false (by omega)]
   by_cases d2:x≥32
   ·have g1:decide ((x:Int)≥32)=true:=decide_eq_true (by omega)
    have g2:decide ((x:Int)<127)=false:=decide_eq_false (by omega)
    refine acQ 93 Tryz.func137 rfl rfl fun _ _ _=> ?_
    (repeat'((conv=>whnf);first|refine zP ?_|refine zN ?_|refine Ac ?_|refine Ae ?_|exact zE))
   ·have g1:decide ((x:Int)≥32)=false:=decide_eq_false (by omega)
    refine acQ 93 Tryz.func137 rfl rfl fun _ _ _=> ?_
    (repeat'((conv=>whnf);first|refine zN ?_|refine Ac ?_|refine Ae ?_|exact zE))
theorem yE (x:Nat):Ab Tryz.prog 137 [iv 19,iv x] (fun r=>r=bv (Bp 19 x)):=by
 have e:Bp 19 x=(decide ((48≤x∧x<58)∨(65≤x∧x<91)∨(97≤x∧x<123))||oth.contains x):=rfl
 by_cases d:(48≤x∧x<58)∨(65≤x∧x<91)∨(97≤x∧x<123)
 ·rw[e,decide_eq_true d,Bool.true_or]
  refine acQ 93 Tryz.func137 rfl rfl fun _ _ _=> ?_
  (repeat'((conv=>whnf);first|refine Ac ?_|refine Ae ?_|(refine Ai (fun hc hcP=> ?_) (fun hc hcP=> ?_)<;>try(exfalso;omega))|exact zE))
 ·rw[e,decide_eq_false d,Bool.false_or]
  refine acQ 93 Tryz.func137 rfl rfl fun _ _ _=> ?_
  (repeat'((conv=>whnf);first|refine Ac ?_|refine Ae ?_|(refine Ai (fun hc hcP=> ?_) (fun hc hcP=> ?_)<;>try(exfalso;omega))));(all_goals(conv=>whnf))
  all_goals refine Au (fun i:Nat=>i≤12∧∀(m:Nat) (c:UInt8),m<i→U4[m]?=some c→c.toNat≠x) (fun i=>12-i) (fun i=>⟨[(1,iv x),(5,.d (.v (.string ⟨⟨U4⟩⟩))),(6,iv i)],[],[]⟩) 0 ⟨by omega,fun m c h=>by omega⟩ leQ ?_
  all_goals
   intro i hi
   obtain⟨h1,h2⟩:=hi
   have hL:U4.length=12:=rfl
   by_cases hil:i<12
   ·obtain⟨c,hx⟩:∃p,U4[i]?=some p:=⟨_,List.getElem?_eq_getElem hil⟩
    have hcl:=c.toNat_lt
    have g:decide ((i:Int)<(U4.length:Int))=true:=decide_eq_true (by omega)
    by_cases h3:c.toNat=x
    ·have g3:((c.toNat:Int)==(x:Int))=true:=beq_iff_eq.2 (by omega)
     rw[EE hx h3]
     (repeat'((conv=>whnf);first|refine zP ?_|refine A1 hx ?_|(with_reducible refine NInt.i64 ?_)|exact zE))
    ·have g3:((c.toNat:Int)==(x:Int))=false:=beq_eq_false_iff_ne.2 (by omega)
     (repeat'((conv=>whnf);first|refine zP ?_|refine zN ?_|refine A1 hx ?_|(with_reducible refine NInt.i64 ?_)));(all_goals(conv=>whnf))
     refine⟨i+1,⟨by omega,fun m c' hm hc'=> ?_⟩,by omega,?_⟩
     ·by_cases hmi:m=i
      ·subst hmi;rw[hx] at hc';cases hc';exact h3
      ·exact h2 m c' (by omega) hc'
     exact leQ
   ·have g:decide ((i:Int)<(U4.length:Int))=false:=decide_eq_false (by omega)
    rw[JE fun m c hc=>h2 m c (by have:=(List.getElem?_eq_some_iff.1 hc).1;have:U4.length=12:=rfl;omega) hc]
    (repeat'((conv=>whnf);refine zN ?_));(all_goals(conv=>whnf))
    all_goals exact zE
theorem yF (k:Int) (hk:0≤Ao k) (x:Nat) (hx:x≤1099511627776):Ab Tryz.prog 137 [iv k,iv x] (fun r=>r=bv (Bp k x)):=by
 rcases Df k (by omega) with rfl|rfl|rfl|rfl|rfl|rfl|rfl
 ·exact eQ 12 (.inl rfl) x hx
 ·exact yE x
 ·exact yD x
 ·exact yB x
 ·exact yC x
 ·exact eQ 28 (.inr rfl) x hx
 ·exact yA x hx
end Go.Proofs.YtjakkpcpommojaaGreatDoor
namespace Go.Proofs.YtjakkpcpommojaaGreatDoor
open Go.RowKit
open Go.Lib (validD decodeL)
def Wc (n:Nat):List D:=[.v (.int .i64 n)]
def sB (t:Bool) (a:List Nat):D:=Er t 1 Wc a
theorem EF {b:Nat} (h1:240≤b) (h2:b<248):En b=some (3,b-240):=by unfold En;rw[if_pos (by omega)]
theorem EG {b:Nat} (h1:224≤b) (h2:b<240):En b=some (2,b-224):=by unfold En;rw[if_neg (by omega),if_pos (by omega)]
theorem EH {b:Nat} (h1:192≤b) (h2:b<224):En b=some (1,b-192):=by unfold En;rw[if_neg (by omega),if_neg (by omega),if_pos (by omega)]
theorem EI {b:Nat} (h2:b<128):En b=some (0,b):=by unfold En;rw[if_neg (by omega),if_neg (by omega),if_neg (by omega),if_neg (by omega)]
theorem yG {b:Nat} (h:(128≤b∧b<192)∨248≤b):En b=none:=by unfold En;rw[if_neg (by omega),if_neg (by omega),if_neg (by omega),if_pos (by omega)]
theorem Oe (t:List UInt8) (n k x:Nat) (h0:¬(t.getD k 0).toNat<128) (h1:¬192≤(t.getD k 0).toNat):
 D6 t (n+1) k x=D6 t n (k+1) (x*64+(t.getD k 0).toNat-128):=by
 rw[D6,if_neg (by omega)]
theorem Qz (t:List UInt8) (n k x:Nat) (h:(t.getD k 0).toNat<128∨192≤(t.getD k 0).toNat):D6 t (n+1) k x=none:=by
 rw[D6,if_pos h]
theorem kF {t:List UInt8} (h:En (t.getD 0 0).toNat=none):Ge t=none:=by unfold Ge;rw[h]
theorem eR {t:List UInt8} {n x:Nat} (h:En (t.getD 0 0).toNat=some (n,x)) (hn:t.length≤n):Ge t=none:=by
 unfold Ge;rw[h];simp only[];rw[if_pos hn]
theorem kG {t:List UInt8} {n x:Nat} (h:En (t.getD 0 0).toNat=some (n,x)) (hn:¬t.length≤n) (hc:D6 t n 1 x=none):Ge t=none:=by
 unfold Ge;rw[h];simp only[];rw[if_neg hn,hc]
theorem sC {t:List UInt8} {n x y:Nat} (h:En (t.getD 0 0).toNat=some (n,x)) (hn:¬t.length≤n) (hc:D6 t n 1 x=some y) (ho:Db y≠t.take (n+1)):Ge t=none:=by
 unfold Ge;rw[h];simp only[];rw[if_neg hn,hc];simp only[];rw[if_neg ho]
theorem sE {t:List UInt8} {n x y:Nat} (h:En (t.getD 0 0).toNat=some (n,x)) (hn:¬t.length≤n) (hc:D6 t n 1 x=some y) (ho:Db y=t.take (n+1)):Ge t=some (y,n+1):=by
 unfold Ge;rw[h];simp only[];rw[if_neg hn,hc];simp only[];rw[if_pos ho]
theorem sF {s:List UInt8} {pre:List Nat} {t:List UInt8} {X n:Nat} (hst:s=pre.flatMap enc++t) (hv:validD t=validD s)
 (hr:validD s=true→rns s=pre++rns t) (ht:t≠[]) (hs:Ge t=some (X,n)):
 s=(pre++[X]).flatMap enc++t.drop n∧((pre++[X]).flatMap enc).length=(pre.flatMap enc).length+n∧validD (t.drop n)=validD s∧
  (validD s=true→rns s=(pre++[X])++rns (t.drop n))∧1≤n:=by
 obtain⟨h1,h2,h3⟩:=Nj ht hs
 obtain⟨h4,h5⟩:=Wh X h1 (t.drop n)
 rw[←h2] at h4 h5
 refine⟨?_,?_,?_,?_,?_⟩
 ·rw[hst,List.flatMap_append]
  simp only[List.flatMap_cons,List.flatMap_nil,List.append_nil,List.append_assoc]
  rw[←h2]
 ·rw[List.flatMap_append]
  simp only[List.flatMap_cons,List.flatMap_nil,List.append_nil,List.length_append]
  rw[h3]
 ·rw[←h4,hv]
 ·intro hV
  rw[hr hV,h5]
  simp
 ·rw[h3];exact(Fu X).1
def U5 (s:List UInt8):AV:=if validD s then .tup [.d (sB true (rns s)),bv true] else .tup [Ax,bv false]
theorem eT {s:List UInt8} (h:validD s=false):U5 s= .tup [Ax,bv false]:=by unfold U5;rw[h];rfl
theorem yH (c:Nat):(128≤c∧c<192)∨248≤c∨(240≤c∧c<248)∨(224≤c∧c<240)∨(192≤c∧c<224)∨c<128:=by omega
theorem aA {k x:Nat} (h:x<256^k) (hk:k≤4):x<4294967296:=Nat.lt_of_lt_of_le h (Nat.pow_le_pow_right (n:=256) (by omega) hk)
theorem Rt (s:List UInt8) (hs:s.length≤16777216):Ab Tryz.prog 132 [.d (.v (.string ⟨⟨s⟩⟩))] (fun r=>r=U5 s):=by
 refine acQ 92 Tryz.func132 rfl rfl fun _ _ _=> ?_
 (all_goals(conv=>whnf))
 refine Ba [.s 4 1 3] (fun p:Nat×List Nat×List UInt8=>p.1+p.2.2.length=s.length∧p.2.1.length≤p.1∧(p.2.1.flatMap enc).length=p.1∧s=p.2.1.flatMap enc++p.2.2∧validD p.2.2=validD s∧(validD s=true→rns s=p.2.1++rns p.2.2)) (fun p=>p.2.2.length) (fun p=>⟨[(0,.d (.v (.string ⟨⟨s⟩⟩))),(4,Bx 4 1 3 Wc p.2.1),(5,iv p.1)],[],[(4,(p.2.1.length,1,3))]⟩) (0,[],s) ⟨by simp,by simp,by simp,by simp,rfl,fun _=>rfl⟩ leQ ?_
 rintro⟨i,pre,t⟩ ⟨h1,h2,h3,h4,h5,h6⟩
 simp only at h1 h2 h3 h4 h5 h6
 cases t with
 |nil=>
  have hv:validD s=true:=by rw[←h5];rfl
  have hR:=h6 hv
  rw[X6,List.append_nil] at hR
  have g:decide ((i:Int)<(s.length:Int))=false:=decide_eq_false (by simp at h1;omega)
  rw[show U5 s= .tup [.d (sB true pre),bv true] by unfold U5;rw[if_pos hv,hR]]
  (repeat'((conv=>whnf);refine zN ?_));(all_goals(conv=>whnf))
  all_goals exact zE
 |cons c r=>
  rw[List.length_cons] at h1
  have hg:∀k,s[i+k]?=(c::r)[k]?:=fun k=>by
   rw[h4,List.getElem?_append_right (by omega),h3];congr 1;omega
  have hx:s[i]?=some c:=hg 0
  have hcl:=c.toNat_lt
  have hc0:((c::r).getD 0 0)=c:=rfl
  have g:decide ((i:Int)<(s.length:Int))=true:=decide_eq_true (by omega)
  have hbad:Ge (c::r)=none→U5 s= .tup [Ax,bv false]:=fun h=>eT (by rw[←h5];exact oL _ (by simp) h)
  generalize hq:U5 s=q at hbad⊢
  have hlead:((128≤c.toNat∧c.toNat<192)∨248≤c.toNat)∨∃(n x0:Nat) (z:Int),En c.toNat=some (n,x0)∧z=n∧x0<256∧n≤3∧((n=3∧240≤c.toNat∧c.toNat<248∧x0=c.toNat-240)∨(n=2∧224≤c.toNat∧c.toNat<240∧x0=c.toNat-224)∨(n=1∧192≤c.toNat∧c.toNat<224∧x0=c.toNat-192)∨(n=0∧c.toNat<128∧x0=c.toNat)):=by
   rcases yH c.toNat with h|h|h|h|h|h
   ·exact .inl (.inl h)
   ·exact .inl (.inr h)
   ·exact .inr ⟨3,c.toNat-240,3,EF h.1 h.2,rfl,by omega,by omega,.inl ⟨rfl,h.1,h.2,rfl⟩⟩
   ·exact .inr ⟨2,c.toNat-224,2,EG h.1 h.2,rfl,by omega,by omega,.inr (.inl ⟨rfl,h.1,h.2,rfl⟩)⟩
   ·exact .inr ⟨1,c.toNat-192,1,EH h.1 h.2,rfl,by omega,by omega,.inr (.inr (.inl ⟨rfl,h.1,h.2,rfl⟩))⟩
   ·exact .inr ⟨0,c.toNat,0,EI h,rfl,by omega,by omega,.inr (.inr (.inr ⟨rfl,h,rfl⟩))⟩
  rcases hlead with hl|⟨n,x0,z,hl,hz,hx0,hn3,hcase⟩
  ·obtain rfl:=hbad (kF (yG hl))
   (repeat'((conv=>whnf);first|refine zP ?_|refine Ac ?_|refine Ae ?_|refine A1 hx ?_|(with_reducible refine NInt.i64 ?_)|(refine Ai (fun hc hcP=> ?_) (fun hc hcP=> ?_)<;>try(exfalso;omega))|exact zE))
  ·by_cases hlen:r.length<n
   ·obtain rfl:=hbad (eR hl (by rw[List.length_cons];omega))
    rcases hcase with⟨rfl,c1,c2,c3⟩|⟨rfl,c1,c2,c3⟩|⟨rfl,c1,c2,c3⟩|⟨rfl,c1,c3⟩
    all_goals(repeat'((conv=>whnf);first|refine zP ?_|refine Ac ?_|refine Ae ?_|refine A1 hx ?_|(with_reducible refine NInt.i64 ?_)|(refine Ai (fun hc hcP=> ?_) (fun hc hcP=> ?_)<;>try(exfalso;omega))|exact zE))
   ·have gl:∀z:Int,z=(n:Int)→decide ((i:Int)+z≥(s.length:Int))=false:=fun z hz=>decide_eq_false (by omega)
    have hround:∀(W:Nat),W=W:=fun _=>rfl
    have hbad1:D6 (c::r) n 1 x0=none→q= .tup [Ax,bv false]:=fun h=>hbad (kG hl (by rw[List.length_cons];omega) h)
    have hbad2:∀X,D6 (c::r) n 1 x0=some X→Db X≠(c::r).take (n+1)→q= .tup [Ax,bv false]:=fun X a b=>hbad (sC hl (by rw[List.length_cons];omega) a b)
    have hgood:∀X,D6 (c::r) n 1 x0=some X→Db X=(c::r).take (n+1)→_:=fun X a b=>sF h4 h5 h6 (by simp) (sE hl (by rw[List.length_cons];omega) a b)
    have hcut:(s.drop i).take (i+n+1-i)=(c::r).take (n+1):=by
     rw[h4,List.drop_append_of_le_length (by omega),List.drop_of_length_le (by omega),List.nil_append];congr 1;omega
    rcases hcase with⟨rfl,c1,c2,c3⟩|⟨rfl,c1,c2,c3⟩|⟨rfl,c1,c2,c3⟩|⟨rfl,c1,c3⟩
    ·subst hz
     have gl:=gl _ rfl
     (repeat'((conv=>whnf);first|refine zP ?_|refine Ac ?_|refine A1 hx ?_|(with_reducible refine NInt.i64 ?_)|(refine Ai (fun hc hcP=> ?_) (fun hc hcP=> ?_)<;>try(exfalso;omega))));(all_goals(conv=>whnf))
     refine Au (fun p:Nat×Nat=>1≤p.1∧p.1≤3+1∧p.2<256^p.1∧D6 (c::r) (3+1-p.1) p.1 p.2=D6 (c::r) 3 1 x0) (fun p=>4-p.1) (fun p=>⟨[(0,.d (.v (.string ⟨⟨s⟩⟩))),(4,Bx 4 1 3 Wc pre),(5,iv i),(6,iv p.2),(7,iv 3),(8,iv p.1)],[],[(4,(pre.length,1,3))]⟩) (1,x0) ⟨by simp,by simp,by simpa using hx0,rfl⟩ leQ ?_
     rintro⟨k,x⟩ ⟨k1,k2,k3,k4⟩
     simp only at k1 k2 k3 k4
     have k5:=aA k3 (by omega)
     by_cases hk:k≤3
     ·obtain⟨d,hd⟩:∃d,(c::r)[k]?=some d:=⟨_,List.getElem?_eq_getElem (by rw[List.length_cons];omega)⟩
      have hy:=(hg k).trans hd
      have hdl:=d.toNat_lt
      have hgd:(c::r).getD k 0=d:=by rw[List.getD_eq_getElem?_getD,hd];rfl
      obtain⟨m,hm⟩:∃m,3+1-k=m+1:=⟨3-k,by omega⟩
      rw[hm] at k4
      by_cases hok:d.toNat<128∨192≤d.toNat
      ·obtain rfl:=hbad1 (by rw[←k4];exact Qz _ _ _ _ (by rw[hgd];exact hok))
       (repeat'((conv=>whnf);first|refine Ac ?_|refine Ae ?_|refine A1 hy ?_|(with_reducible refine NInt.i64 ?_)|(refine Ai (fun hc hcP=> ?_) (fun hc hcP=> ?_)<;>try(exfalso;omega))|exact zE))
      ·rw[Oe _ _ _ _ (by rw[hgd];omega) (by rw[hgd];omega),hgd] at k4
       (repeat'((conv=>whnf);first|refine Ae ?_|refine A1 hy ?_|(with_reducible refine NInt.i64 ?_)|(refine Ai (fun hc hcP=> ?_) (fun hc hcP=> ?_)<;>try(exfalso;omega))));(all_goals(conv=>whnf))
       refine⟨(k+1,x*64+d.toNat-128),⟨by show 1≤k+1;omega,by show k+1≤_;omega,by show _<256^(k+1);rw[Nat.pow_succ];omega,by show D6 _ (3+1-(k+1)) _ _=_;rw[show 3+1-(k+1)=m by omega];exact k4⟩,by show 4-(k+1)<4-k;omega,?_⟩
       exact leQ
     ·obtain rfl:k=3+1:=by omega
      rw[Nat.sub_self] at k4
      have k4:some x=_:=k4
      have hO:=E5 x (by omega)
      by_cases hoc:Db x=(c::r).take (3+1)
      ·obtain⟨a1,a2,a3,a4,a5⟩:=hgood x k4.symm hoc
       have hne:(!(Db x==(c::r).take (3+1)))=false:=by rw[hoc,beq_self_eq_true];rfl
       (repeat'((conv=>whnf);first|refine zN ?_|refine Ae ?_|refine Aa hO rfl ?_|(refine Jl i (i+3+1) _ hcut ?_)|refine A3 Wc x ?_|(with_reducible refine NInt.i64 ?_)|(with_reducible refine Hy ?_)|refine zF ?_));(all_goals(conv=>whnf))
       refine⟨(i+(3+1),pre++[x],(c::r).drop (3+1)),⟨by show _+List.length _=_;rw[List.length_drop,List.length_cons];omega,by show List.length _≤_;simp;omega,by show _=i+(3+1);rw[a2];omega,a1,a3,a4⟩,by show List.length _<List.length _;rw[List.length_drop,List.length_cons];omega,?_⟩
       exact leQ
      ·obtain rfl:=hbad2 x k4.symm hoc
       have hne:(!(Db x==(c::r).take (3+1)))=true:=by rw[beq_eq_false_iff_ne.2 hoc];rfl
       (repeat'((conv=>whnf);first|refine zP ?_|refine Ae ?_|refine Aa hO rfl ?_|(refine Jl i (i+3+1) _ hcut ?_)|(with_reducible refine NInt.i64 ?_)|(with_reducible refine Hy ?_)|refine zF ?_|exact zE))
    ·subst hz
     have gl:=gl _ rfl
     (repeat'((conv=>whnf);first|refine zP ?_|refine Ac ?_|refine Ae ?_|refine A1 hx ?_|(with_reducible refine NInt.i64 ?_)|(refine Ai (fun hc hcP=> ?_) (fun hc hcP=> ?_)<;>try(exfalso;omega))));(all_goals(conv=>whnf))
     refine Au (fun p:Nat×Nat=>1≤p.1∧p.1≤2+1∧p.2<256^p.1∧D6 (c::r) (2+1-p.1) p.1 p.2=D6 (c::r) 2 1 x0) (fun p=>4-p.1) (fun p=>⟨[(0,.d (.v (.string ⟨⟨s⟩⟩))),(4,Bx 4 1 3 Wc pre),(5,iv i),(6,iv p.2),(7,iv 2),(8,iv p.1)],[],[(4,(pre.length,1,3))]⟩) (1,x0) ⟨by simp,by simp,by simpa using hx0,rfl⟩ leQ ?_
     rintro⟨k,x⟩ ⟨k1,k2,k3,k4⟩
     simp only at k1 k2 k3 k4
     have k5:=aA k3 (by omega)
     by_cases hk:k≤2
     ·obtain⟨d,hd⟩:∃d,(c::r)[k]?=some d:=⟨_,List.getElem?_eq_getElem (by rw[List.length_cons];omega)⟩
      have hy:=(hg k).trans hd
      have hdl:=d.toNat_lt
      have hgd:(c::r).getD k 0=d:=by rw[List.getD_eq_getElem?_getD,hd];rfl
      obtain⟨m,hm⟩:∃m,2+1-k=m+1:=⟨2-k,by omega⟩
      rw[hm] at k4
      by_cases hok:d.toNat<128∨192≤d.toNat
      ·obtain rfl:=hbad1 (by rw[←k4];exact Qz _ _ _ _ (by rw[hgd];exact hok))
       (repeat'((conv=>whnf);first|refine Ac ?_|refine Ae ?_|refine A1 hy ?_|(with_reducible refine NInt.i64 ?_)|(refine Ai (fun hc hcP=> ?_) (fun hc hcP=> ?_)<;>try(exfalso;omega))|exact zE))
      ·rw[Oe _ _ _ _ (by rw[hgd];omega) (by rw[hgd];omega),hgd] at k4
       (repeat'((conv=>whnf);first|refine Ae ?_|refine A1 hy ?_|(with_reducible refine NInt.i64 ?_)|(refine Ai (fun hc hcP=> ?_) (fun hc hcP=> ?_)<;>try(exfalso;omega))));(all_goals(conv=>whnf))
       refine⟨(k+1,x*64+d.toNat-128),⟨by show 1≤k+1;omega,by show k+1≤_;omega,by show _<256^(k+1);rw[Nat.pow_succ];omega,by show D6 _ (2+1-(k+1)) _ _=_;rw[show 2+1-(k+1)=m by omega];exact k4⟩,by show 4-(k+1)<4-k;omega,?_⟩
       exact leQ
     ·obtain rfl:k=2+1:=by omega
      rw[Nat.sub_self] at k4
      have k4:some x=_:=k4
      have hO:=E5 x (by omega)
      by_cases hoc:Db x=(c::r).take (2+1)
      ·obtain⟨a1,a2,a3,a4,a5⟩:=hgood x k4.symm hoc
       have hne:(!(Db x==(c::r).take (2+1)))=false:=by rw[hoc,beq_self_eq_true];rfl
       (repeat'((conv=>whnf);first|refine zN ?_|refine Ae ?_|refine Aa hO rfl ?_|(refine Jl i (i+2+1) _ hcut ?_)|refine A3 Wc x ?_|(with_reducible refine NInt.i64 ?_)|(with_reducible refine Hy ?_)|refine zF ?_));(all_goals(conv=>whnf))
       refine⟨(i+(2+1),pre++[x],(c::r).drop (2+1)),⟨by show _+List.length _=_;rw[List.length_drop,List.length_cons];omega,by show List.length _≤_;simp;omega,by show _=i+(2+1);rw[a2];omega,a1,a3,a4⟩,by show List.length _<List.length _;rw[List.length_drop,List.length_cons];omega,?_⟩
       exact leQ
      ·obtain rfl:=hbad2 x k4.symm hoc
       have hne:(!(Db x==(c::r).take (2+1)))=true:=by rw[beq_eq_false_iff_ne.2 hoc];rfl
       (repeat'((conv=>whnf);first|refine zP ?_|refine Ae ?_|refine Aa hO rfl ?_|(refine Jl i (i+2+1) _ hcut ?_)|(with_reducible refine NInt.i64 ?_)|(with_reducible refine Hy ?_)|refine zF ?_|exact zE))
    ·subst hz
     have gl:=gl _ rfl
     (repeat'((conv=>whnf);first|refine zP ?_|refine Ac ?_|refine Ae ?_|refine A1 hx ?_|(with_reducible refine NInt.i64 ?_)|(refine Ai (fun hc hcP=> ?_) (fun hc hcP=> ?_)<;>try(exfalso;omega))));(all_goals(conv=>whnf))
     refine Au (fun p:Nat×Nat=>1≤p.1∧p.1≤1+1∧p.2<256^p.1∧D6 (c::r) (1+1-p.1) p.1 p.2=D6 (c::r) 1 1 x0) (fun p=>4-p.1) (fun p=>⟨[(0,.d (.v (.string ⟨⟨s⟩⟩))),(4,Bx 4 1 3 Wc pre),(5,iv i),(6,iv p.2),(7,iv 1),(8,iv p.1)],[],[(4,(pre.length,1,3))]⟩) (1,x0) ⟨by simp,by simp,by simpa using hx0,rfl⟩ leQ ?_
     rintro⟨k,x⟩ ⟨k1,k2,k3,k4⟩
     simp only at k1 k2 k3 k4
     have k5:=aA k3 (by omega)
     by_cases hk:k≤1
     ·obtain⟨d,hd⟩:∃d,(c::r)[k]?=some d:=⟨_,List.getElem?_eq_getElem (by rw[List.length_cons];omega)⟩
      have hy:=(hg k).trans hd
      have hdl:=d.toNat_lt
      have hgd:(c::r).getD k 0=d:=by rw[List.getD_eq_getElem?_getD,hd];rfl
      obtain⟨m,hm⟩:∃m,1+1-k=m+1:=⟨1-k,by omega⟩
      rw[hm] at k4
      by_cases hok:d.toNat<128∨192≤d.toNat
      ·obtain rfl:=hbad1 (by rw[←k4];exact Qz _ _ _ _ (by rw[hgd];exact hok))
       (repeat'((conv=>whnf);first|refine Ac ?_|refine Ae ?_|refine A1 hy ?_|(with_reducible refine NInt.i64 ?_)|(refine Ai (fun hc hcP=> ?_) (fun hc hcP=> ?_)<;>try(exfalso;omega))|exact zE))
      ·rw[Oe _ _ _ _ (by rw[hgd];omega) (by rw[hgd];omega),hgd] at k4
       (repeat'((conv=>whnf);first|refine Ae ?_|refine A1 hy ?_|(with_reducible refine NInt.i64 ?_)|(refine Ai (fun hc hcP=> ?_) (fun hc hcP=> ?_)<;>try(exfalso;omega))));(all_goals(conv=>whnf))
       refine⟨(k+1,x*64+d.toNat-128),⟨by show 1≤k+1;omega,by show k+1≤_;omega,by show _<256^(k+1);rw[Nat.pow_succ];omega,by show D6 _ (1+1-(k+1)) _ _=_;rw[show 1+1-(k+1)=m by omega];exact k4⟩,by show 4-(k+1)<4-k;omega,?_⟩
       exact leQ
     ·obtain rfl:k=1+1:=by omega
      rw[Nat.sub_self] at k4
      have k4:some x=_:=k4
      have hO:=E5 x (by omega)
      by_cases hoc:Db x=(c::r).take (1+1)
      ·obtain⟨a1,a2,a3,a4,a5⟩:=hgood x k4.symm hoc
       have hne:(!(Db x==(c::r).take (1+1)))=false:=by rw[hoc,beq_self_eq_true];rfl
       (repeat'((conv=>whnf);first|refine zN ?_|refine Ae ?_|refine Aa hO rfl ?_|(refine Jl i (i+1+1) _ hcut ?_)|refine A3 Wc x ?_|(with_reducible refine NInt.i64 ?_)|(with_reducible refine Hy ?_)|refine zF ?_));(all_goals(conv=>whnf))
       refine⟨(i+(1+1),pre++[x],(c::r).drop (1+1)),⟨by show _+List.length _=_;rw[List.length_drop,List.length_cons];omega,by show List.length _≤_;simp;omega,by show _=i+(1+1);rw[a2];omega,a1,a3,a4⟩,by show List.length _<List.length _;rw[List.length_drop,List.length_cons];omega,?_⟩
       exact leQ
      ·obtain rfl:=hbad2 x k4.symm hoc
       have hne:(!(Db x==(c::r).take (1+1)))=true:=by rw[beq_eq_false_iff_ne.2 hoc];rfl
       (repeat'((conv=>whnf);first|refine zP ?_|refine Ae ?_|refine Aa hO rfl ?_|(refine Jl i (i+1+1) _ hcut ?_)|(with_reducible refine NInt.i64 ?_)|(with_reducible refine Hy ?_)|refine zF ?_|exact zE))
    ·subst hz
     have gl:=gl _ rfl
     (repeat'((conv=>whnf);first|refine zP ?_|refine Ae ?_|refine A1 hx ?_|(with_reducible refine NInt.i64 ?_)|(refine Ai (fun hc hcP=> ?_) (fun hc hcP=> ?_)<;>try(exfalso;omega))));(all_goals(conv=>whnf))
     refine Au (fun p:Nat×Nat=>1≤p.1∧p.1≤0+1∧p.2<256^p.1∧D6 (c::r) (0+1-p.1) p.1 p.2=D6 (c::r) 0 1 x0) (fun p=>4-p.1) (fun p=>⟨[(0,.d (.v (.string ⟨⟨s⟩⟩))),(4,Bx 4 1 3 Wc pre),(5,iv i),(6,iv p.2),(7,iv 0),(8,iv p.1)],[],[(4,(pre.length,1,3))]⟩) (1,x0) ⟨by simp,by simp,by simpa using hx0,rfl⟩ leQ ?_
     rintro⟨k,x⟩ ⟨k1,k2,k3,k4⟩
     simp only at k1 k2 k3 k4
     have k5:=aA k3 (by omega)
     by_cases hk:k≤0
     ·omega
     ·obtain rfl:k=0+1:=by omega
      rw[Nat.sub_self] at k4
      have k4:some x=_:=k4
      have hO:=E5 x (by omega)
      by_cases hoc:Db x=(c::r).take (0+1)
      ·obtain⟨a1,a2,a3,a4,a5⟩:=hgood x k4.symm hoc
       have hne:(!(Db x==(c::r).take (0+1)))=false:=by rw[hoc,beq_self_eq_true];rfl
       (repeat'((conv=>whnf);first|refine zN ?_|refine Ae ?_|refine Aa hO rfl ?_|(refine Jl i (i+0+1) _ hcut ?_)|refine A3 Wc x ?_|(with_reducible refine NInt.i64 ?_)|(with_reducible refine Hy ?_)|refine zF ?_));(all_goals(conv=>whnf))
       refine⟨(i+(0+1),pre++[x],(c::r).drop (0+1)),⟨by show _+List.length _=_;rw[List.length_drop,List.length_cons];omega,by show List.length _≤_;simp;omega,by show _=i+(0+1);rw[a2];omega,a1,a3,a4⟩,by show List.length _<List.length _;rw[List.length_drop,List.length_cons];omega,?_⟩
       exact leQ
      ·obtain rfl:=hbad2 x k4.symm hoc
       have hne:(!(Db x==(c::r).take (0+1)))=true:=by rw[beq_eq_false_iff_ne.2 hoc];rfl
       (repeat'((conv=>whnf);first|refine zP ?_|refine Ae ?_|refine Aa hO rfl ?_|(refine Jl i (i+0+1) _ hcut ?_)|(with_reducible refine NInt.i64 ?_)|(with_reducible refine Hy ?_)|refine zF ?_|exact zE))
theorem yI:∀a:List Nat,a.length≤(a.flatMap enc).length
 |[]=>by simp
 |x::a=>by
  have:=(Fu x).1;have:=yI a
  rw[List.flatMap_cons,List.length_append,List.length_cons];omega
theorem aB (l:List UInt8) (h:validD l=true):(rns l).length≤l.length:=by
 have:=yI (rns l);rw[Ib l h] at this;exact this
theorem Hq (k:Int) (s:List UInt8) (hs:s.length≤16777216):Ab Tryz.prog 109 [txA k s] (fun r=>r=bv (Al k s)):=by
 have hP:=Rt s hs
 have hW:=U3 k
 cases hv:validD s
 ·rw[eT hv] at hP
  rw[Su hv]
  clear hv
  refine acQ 34 Tryz.func109 rfl rfl fun _ _ _=> ?_
  (repeat'((conv=>whnf);first|refine Ac ?_|refine Aa hP rfl ?_|exact zE))
 ·rw[show U5 s= .tup [.d (sB true (rns s)),bv true] by unfold U5;rw[if_pos hv]] at hP
  by_cases hk:Ao k<0
  ·rw[Ll hk]
   have g:decide (Ao k<0)=true:=decide_eq_true hk
   clear hv
   refine acQ 34 Tryz.func109 rfl rfl fun _ _ _=> ?_
   (repeat'((conv=>whnf);first|refine zP ?_|refine Ae ?_|refine Aa hP rfl ?_|refine Aa hW rfl ?_|exact zE))
  ·have g:decide (Ao k<0)=false:=decide_eq_false hk
   have hsm:=oN s hv
   have hyes:=Sv (k:=k) (l:=s) hv hk
   have hlen:=aB s hv
   have hno:∀m,m<(rns s).length→Bp k ((rns s).getD m 0)=false→Al k s=false:=fun m=>Q7
   generalize Al k s=q at hyes hno⊢
   generalize rns s=l at hP hsm hyes hno hlen⊢
   clear hv
   refine acQ 34 Tryz.func109 rfl rfl fun _ _ _=> ?_
   (repeat'((conv=>whnf);first|refine zN ?_|refine Ae ?_|refine Aa hP rfl ?_|refine Aa hW rfl ?_));(all_goals(conv=>whnf))
   refine Au (fun i:Nat=>i≤l.length∧∀m,m<i→Bp k (l.getD m 0)=true) (fun i=>l.length-i) (fun i=>⟨[(1,.ptr 1 0),(3,.d (sB true l)),(5,iv i)],[(1,[iv k,.d (.v (.string ⟨⟨s⟩⟩))])],[]⟩) 0 ⟨by omega,fun m h=>by omega⟩ leQ ?_
   rintro i ⟨h1,h2⟩
   by_cases hil:i<l.length
   ·have gl:decide ((i:Int)<(l.length:Int))=true:=decide_eq_true (by omega)
    obtain⟨n,hn⟩:∃n,l[i]?=some n:=⟨_,List.getElem?_eq_getElem hil⟩
    have hgd:l.getD i 0=n:=by rw[List.getD_eq_getElem?_getD,hn];rfl
    have hsn:=hsm i
    rw[hgd] at hsn
    have hH:=yF k (by omega) n (by omega)
    cases hh:Bp k n
    ·obtain rfl:=hno i hil (by rw[hgd];exact hh)
     rw[hh] at hH
     (repeat'((conv=>whnf);first|refine zP ?_|refine Ac ?_|refine NIdx.tab (fun _=>rfl) hn ?_|refine Aa hH rfl ?_|refine zF ?_|exact zE))
    ·rw[hh] at hH
     (repeat'((conv=>whnf);first|refine zP ?_|refine Ae ?_|refine NIdx.tab (fun _=>rfl) hn ?_|refine Aa hH rfl ?_|(with_reducible refine NInt.i64 ?_)|refine zF ?_));(all_goals(conv=>whnf))
     refine⟨i+1,⟨by omega,fun m hm=> ?_⟩,by omega,?_⟩
     ·by_cases hmi:m=i
      ·rw[hmi,hgd];exact hh
      ·exact h2 m (by omega)
     exact leQ
   ·have gl:decide ((i:Int)<(l.length:Int))=false:=decide_eq_false (by omega)
    obtain rfl:=hyes fun m hm=>h2 m (by omega)
    (repeat'((conv=>whnf);refine zN ?_));(all_goals(conv=>whnf))
    all_goals exact zE
theorem sG {f:Nat→List UInt8} {l:List Nat} {i n:Nat} (h:l[i]?=some n):(l.take (i+1)).flatMap f=(l.take i).flatMap f++f n:=by
 have hi:=(List.getElem?_eq_some_iff.1 h).1
 rw[List.take_add_one,h,List.flatMap_append];simp
theorem U6 {f:Nat→List UInt8} {m:Nat} (hf:∀x,(f x).length≤m):∀l:List Nat,(l.flatMap f).length≤m*l.length
 |[]=>by simp
 |x::l=>by
  have:=hf x;have:=U6 hf l
  rw[List.flatMap_cons,List.length_append,List.length_cons,Nat.mul_add];omega
theorem MQ (n:Nat):Jt 1 n=[UInt8.ofNat n]:=by
 unfold Jt;rw[if_neg (by omega)];show [UInt8.ofNat (n/256^0)]=_;rw[Nat.pow_zero,Nat.div_one]
theorem MR (n:Nat):Jt 2 n=[UInt8.ofNat (n/256),UInt8.ofNat (n%256)]:=by
 unfold Jt;rw[if_neg (by omega)];show [UInt8.ofNat (n/256^1),UInt8.ofNat (n/256^0)]=_
 rw[Nat.pow_zero,Nat.div_one,Nat.pow_one,show UInt8.ofNat n=UInt8.ofNat (n%256) from(UInt8.toNat_inj.1 (by simp))]
theorem MS (n:Nat) (h:n≤1114111):Jt 4 n=[0,UInt8.ofNat (n/65536),UInt8.ofNat (n/256%256),UInt8.ofNat (n%256)]:=by
 unfold Jt;rw[if_neg (by omega)];show [UInt8.ofNat (n/256^3),UInt8.ofNat (n/256^2),UInt8.ofNat (n/256^1),UInt8.ofNat (n/256^0)]=_
 rw[Nat.pow_zero,Nat.div_one,Nat.pow_one,show n/256^3=0 by omega,show UInt8.ofNat n=UInt8.ofNat (n%256) from(UInt8.toNat_inj.1 (by simp)),show UInt8.ofNat (n/256)=UInt8.ofNat (n/256%256) from(UInt8.toNat_inj.1 (by simp))]
 rfl
theorem H0 (k:Int) (s:List UInt8) (hs:s.length≤16777216):Ab Tryz.prog 104 [txA k s] (fun r=>r= .tup [.d (Ag true (Gh k s)),iv (Nk k s)]):=by
 have hV:=Hq k s hs
 have hP:=Rt s hs
 have hW:=U3 k
 unfold Gh Nk
 cases hv:Al k s
 ·rw[hv] at hV
  refine acQ 85 Tryz.func104 rfl rfl fun _ _ _=> ?_
  (repeat'((conv=>whnf);first|refine Ac ?_|refine Aa hV rfl ?_|exact zE))
 ·rw[hv] at hV
  have hvD:validD s=true:=by unfold Al at hv;simp at hv;exact hv.1.1
  have hk:¬Ao k<0:=by unfold Al at hv;simp at hv;omega
  rw[show U5 s= .tup [.d (sB true (rns s)),bv true] by unfold U5;rw[if_pos hvD]] at hP
  have hsc:∀x∈rns s,x≤1114111:=fun x hx=>by have:=(Cn x).1 (Jr s hvD x hx);omega
  have hlen:=aB s hvD
  rw[if_pos rfl,if_pos rfl,←P5 hv]
  have hw3:Ao k=0∨Ao k=1∨Ao k=2∨Ao k=4:=by
   rcases Df k hk with rfl|rfl|rfl|rfl|rfl|rfl|rfl<;>simp[Ao]
  generalize rns s=l at hP hsc hlen⊢
  generalize Ao k=W at hW hw3⊢
  clear hv hvD hk
  have hfl:∀i,((l.take i).flatMap (Jt W)).length≤4*(l.take i).length:=fun i=>U6 (fun x=>Sw W x (by omega)) _
  refine acQ 85 Tryz.func104 rfl rfl fun _ _ _=> ?_
  (repeat'((conv=>whnf);first|refine Ae ?_|refine Aa hV rfl ?_|refine Aa hP rfl ?_));(all_goals(conv=>whnf))
  refine Ba [.s 6 1 5] (fun i:Nat=>i≤l.length) (fun i=>l.length-i) (fun i=>⟨[(1,.ptr 1 0),(4,.d (sB true l)),(6,A4 6 5 ((l.take i).flatMap (Jt W))),(7,iv i)],[(1,[iv k,.d (.v (.string ⟨⟨s⟩⟩))])],[(6,(((l.take i).flatMap (Jt W)).length,1,5))]⟩) 0 (by omega) leQ ?_
  rintro i h1
  have hfi:=hfl i
  rw[List.length_take] at hfi
  by_cases hil:i<l.length
  ·have gl:decide ((i:Int)<(l.length:Int))=true:=decide_eq_true (by omega)
   obtain⟨n,hn⟩:∃n,l[i]?=some n:=⟨_,List.getElem?_eq_getElem hil⟩
   have hnb:=hsc n (List.mem_of_getElem? hn)
   have hO:=E5 n (by omega)
   have e1:=sG (f:=Jt W) hn
   have ol:=Wj n
   generalize hq:(l.take i).flatMap (Jt W)=Q at hfi e1⊢
   rcases hw3 with rfl|rfl|rfl|rfl
   ·rw[show Jt 0 n=Db n from rfl] at e1
    (repeat'((conv=>whnf);first|refine zP ?_|refine Ac ?_|refine Aa hW rfl ?_|refine NIdx.tab (fun _=>rfl) hn ?_|refine Aa hO rfl ?_|(with_reducible refine NInt.i64 ?_)|(with_reducible refine NApp.bytes ?_)));(all_goals(conv=>whnf))
    refine⟨i+1,by omega,by omega,?_⟩
    rw[e1]
    exact leQ
   ·rw[MQ] at e1
    (repeat'((conv=>whnf);first|refine zP ?_|refine Ac ?_|refine Ae ?_|refine Aa hW rfl ?_|refine NIdx.tab (fun _=>rfl) hn ?_|(with_reducible refine Bd (n) ?_)|refine H5 ((UInt8.ofNat n)) ?_|(with_reducible refine NInt.i64 ?_)));(all_goals(conv=>whnf))
    refine⟨i+1,by omega,by omega,?_⟩
    rw[e1]
    exact leQ
   ·rw[MR] at e1
    (repeat'((conv=>whnf);first|refine zP ?_|refine Ac ?_|refine Ae ?_|refine Aa hW rfl ?_|refine NIdx.tab (fun _=>rfl) hn ?_|(with_reducible refine Bd (n/256) ?_)|(with_reducible refine Bd (n%256) ?_)|(refine Ei (Q++[UInt8.ofNat (n/256),UInt8.ofNat (n%256)]).length (Am (Q++[UInt8.ofNat (n/256),UInt8.ofNat (n%256)])) ?_ rfl (by omega) (by rw[List.length_append];rfl) (by rw[Hc];rfl))|(with_reducible refine NInt.i64 ?_)|(with_reducible refine B5 ?_)|(with_reducible refine Bh ?_)|refine zF ?_|refine Ar (by first|decide|omega|(simp only[List.length_cons,List.length_nil];omega)) ?_));(all_goals(conv=>whnf))
    refine⟨i+1,by omega,by omega,?_⟩
    rw[e1]
    exact leQ
   ·rw[MS n hnb] at e1
    (repeat'((conv=>whnf);first|refine zP ?_|refine Ae ?_|refine Aa hW rfl ?_|refine NIdx.tab (fun _=>rfl) hn ?_|(with_reducible refine Bd (n/65536) ?_)|(with_reducible refine Bd (n/256%256) ?_)|(with_reducible refine Bd (n%256) ?_)|(refine Ei (Q++[0,UInt8.ofNat (n/65536),UInt8.ofNat (n/256%256),UInt8.ofNat (n%256)]).length (Am (Q++[0,UInt8.ofNat (n/65536),UInt8.ofNat (n/256%256),UInt8.ofNat (n%256)])) ?_ rfl (by omega) (by rw[List.length_append];rfl) (by rw[Hc];rfl))|(with_reducible refine NInt.i64 ?_)|(with_reducible refine B5 ?_)|(with_reducible refine Bh ?_)|refine zF ?_|refine Ar (by first|decide|omega|(simp only[List.length_cons,List.length_nil];omega)) ?_));(all_goals(conv=>whnf))
    refine⟨i+1,by omega,by omega,?_⟩
    rw[e1]
    exact leQ
  ·have gl:decide ((i:Int)<(l.length:Int))=false:=decide_eq_false (by omega)
   rw[List.take_of_length_le (by omega)]
   (repeat'((conv=>whnf);refine zN ?_));(all_goals(conv=>whnf))
   all_goals exact zE
end Go.Proofs.YtjakkpcpommojaaGreatDoor
