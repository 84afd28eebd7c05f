/- MO: the texts Att Att2 Dn Dn2 GenP GenQ GenC, one behind the other. No condition but what each lemma says. -/
import Derived.Test.YtaoahmplnckhpaaGreatDoorMM
set_option maxRecDepth 100000
set_option maxHeartbeats 16000000
namespace Go.Proofs.YtaoahmplnckhpaaGreatDoor
open Go.RowKit
def Iz (b:List UInt8):Nat:=(D0 b).code
def Kk (b:List UInt8):Nat:=(D0 b).off
theorem Zj (b:List UInt8):Kk b≤b.length:=by
 have hF:=Fh b 16 b.length (by omega) 0 (by omega)
 dsimp only at hF
 unfold Kk D0
 generalize Bg b 16 0 b.length=r at hF
 by_cases h:r.code=0
 ·obtain⟨s,rfl,h1,h2⟩:=hF.1 h
  by_cases h3:s.stop<b.length
  ·rw[Gl h3];exact h2
  ·rw[Iy h3];exact Nat.zero_le _
 ·obtain⟨h1,h2⟩:=hF.2 h
  obtain⟨l,c,o⟩:=r
  have hl:l=[]:=h2
  subst hl
  rw[Hb];exact h1
theorem R8 (b:List UInt8) (hb:b.length≤1000000000):(Iz b=0∧∃(a q m:Nat) (k:Bool) (l:List UInt8) (cs:List D),Ac Tryz.prog 125 [.d (Af false b)] (fun r=>r= .tup [.agg [iv a,iv q,bv k,.d (Af true l),.d (.sl true m 5 cs)],erA 0 0]))∨
 (Iz b≠0∧Ac Tryz.prog 125 [.d (Af false b)] (fun r=>r= .tup [.agg [iv 0,iv 0,bv false,Bj,Bj],erA (Iz b) (Kk b)])):=by
 have hP:=mD b hb
 unfold Iz Kk
 rcases mG b with⟨s,h⟩|⟨c,o,hc0,h⟩
 ·rw[h] at hP⊢
  obtain⟨a,q,c,n,k,b',ks⟩:=s
  exact .inl ⟨rfl,c,n,ks.length,k,b',H9 true ks,hP⟩
 ·rw[h] at hP⊢
  refine .inr ⟨hc0,?_⟩
  cases c with
  |zero=>exact absurd rfl hc0
  |succ c=>exact hP
def Wh (b:List UInt8):List UInt8:=(b.drop (Bb b).x.body).take ((Bb b).x.stop-(Bb b).x.body)
def R9 (b:List UInt8):Bool:=(Bb b).code==0&&((Bb b).x.c==0&& !(Bb b).x.k)
def Pn (b:List UInt8):Int:=if R9 b then I4 (Bb b).x.n (Wh b) else 0
def Wi (b:List UInt8):List UInt8:=if R9 b then Fv (Bb b).x.n (Wh b) else []
def dW (b:List UInt8):Bool:=R9 b&&Fx (Bb b).x.n (Wh b)==0
theorem sE (b:List UInt8):(Wh b).length≤b.length:=by
 unfold Wh;rw[Al,Aw];omega
theorem Je {p:Prop} (h:p:=by first|rfl|(simp only[AV.gives,AV.ren,AV.give,D.un,D.uns,Ai,Am,List.nil_append,List.append_nil,List.cons_append,At,E4,E5,Bm,A4,Ck];first|done|rfl)):p:=h
theorem Wj (b:List UInt8) (hb:b.length≤1000000):Ac Tryz.prog 226 [.d (Af false b)] (fun r=>r= .tup [txA (Pn b) (Wi b),bv (dW b)]):=by
 have hO:=Kz b (by omega)
 have hF:=D3 b
 have hD:=M9 (Bb b).x.n (Wh b) (by have:=sE b;omega)
 unfold Pn Wi dW
 have gs:R9 b=((Bb b).code==0&&((Bb b).x.c==0&& !(Bb b).x.k)):=rfl
 unfold Wh at hD⊢
 generalize R9 b=q at gs⊢
 generalize Bb b=r at hO hF hD gs⊢
 obtain⟨⟨c,n,k,p,body,stop⟩,cd,of⟩:=r
 simp only at hF hD gs⊢
 by_cases h1:cd=0
 case neg=>
  have g1:((cd:Int) !=0)=true:=by rw[bne_iff_ne];omega
  have gq:q=false:=by rw[gs,show(cd==0)=false by rw[beq_eq_false_iff_ne];exact h1];rfl
  subst gq
  refine acQ 41 Tryz.func226 rfl rfl fun _ _ _=> ?_
  (repeat'((conv=>whnf);first|refine Ab ?_|refine Av asP ?_|refine Aa hO Je ?_|exact zE))
 subst h1
 by_cases h2:c=0
 case neg=>
  have g1:((c:Int) !=0)=true:=by rw[bne_iff_ne];omega
  have gq:q=false:=by rw[gs,show(c==0)=false by rw[beq_eq_false_iff_ne];exact h2];rfl
  subst gq
  refine acQ 41 Tryz.func226 rfl rfl fun _ _ _=> ?_
  (repeat'((conv=>whnf);first|refine Ab ?_|refine Ae ?_|refine Av asP ?_|refine Aa hO Je ?_|exact zE))
 subst h2
 cases k
 ·have gq:q=true:=gs
  subst gq
  generalize I4 n ((b.drop body).take (stop-body))=K at hD⊢
  generalize Fv n ((b.drop body).take (stop-body))=V at hD⊢
  generalize Fx n ((b.drop body).take (stop-body))=Z at hD⊢
  refine acQ 41 Tryz.func226 rfl rfl fun _ _ _=> ?_
  (repeat'((conv=>whnf);first|refine Ae ?_|refine Aa hO Je ?_|refine NSl.slice (body) (stop) ?_|refine Aa hD Je ?_|refine zF ?_|exact zE))
 ·have gq:q=false:=gs
  subst gq
  refine acQ 41 Tryz.func226 rfl rfl fun _ _ _=> ?_
  (repeat'((conv=>whnf);first|refine Ab ?_|refine Ae ?_|refine Aa hO Je ?_|exact zE))
def txE (k:Int) (l:List UInt8):List UInt8:=Ao 0 k.toNat false (chS k l)
def frS (k:Int) (l:List UInt8):AV:=if An k l=true then .tup [Cg 0 5 (txE k l),iv 0] else .tup [Bj,iv 8]
theorem Zk {k:Int} {l:List UInt8} (h:An k l=true):∃n:Nat,12≤n∧n≤30∧k=n:=by
 have hk:¬Aq k<0:=fun hw=>by rw[Jz hw] at h;cases h
 rcases Ef k hk with h|h|h|h|h|h|h<;>exact⟨k.toNat,by omega,by omega,by omega⟩
theorem Ld {k:Int} {l:List UInt8} (h:An k l=true):(chS k l).length≤4*l.length:=by
 have hv:Go.Lib.validD l=true:=by unfold An at h;simp at h;exact h.1.1
 rw[←jB h]
 have hl:(rns l).length≤l.length:=by
  have:=congrArg List.length (G3 l hv)
  have h1:∀q:List Nat,q.length≤(q.flatMap enc).length:=by
   intro q
   induction q with
   |nil=>simp
   |cons a r ih=>rw[List.flatMap_cons,Aj,Ag];have:=(E2 a).1;omega
  have:=h1 (rns l)
  omega
 have hw:Aq k≤4:=by unfold Aq;(repeat' split)<;>omega
 have h2:∀q:List Nat,(q.flatMap (aM (Aq k))).length≤4*q.length:=by
  intro q
  induction q with
  |nil=>simp
  |cons a r ih=>rw[List.flatMap_cons,Aj,Ag];have:=nJ (Aq k) a hw;omega
 have:=h2 (rns l)
 omega
theorem Kl (k:Int) (l:List UInt8) (hl:l.length≤16777216):Ac Tryz.prog 101 [txA k l] (fun r=>r=frS k l):=by
 have hE:=M8 k l (by omega)
 unfold frS
 unfold J0 Uu at hE
 by_cases hv:An k l=true
 ·rw[if_pos hv]
  rw[if_pos hv,if_pos hv] at hE
  obtain⟨n,n1,n2,rfl⟩:=Zk hv
  have h4:=Ld hv
  have hW:=Dk 0 n false (chS (n:Int) l) (by omega) n2 (by omega)
  have e:txE (n:Int) l=Ao 0 n false (chS (n:Int) l):=by unfold txE;rw[Int.toNat_natCast]
  rw[e]
  refine acQ 20 Tryz.func101 rfl rfl fun _ _ _=> ?_
  (repeat'((conv=>whnf);first|refine Ae ?_|refine Aa hE rfl ?_|refine Aa hW Je ?_|exact zE))
 ·rw[if_neg hv]
  rw[if_neg hv,if_neg hv] at hE
  refine acQ 20 Tryz.func101 rfl rfl fun _ _ _=> ?_
  (repeat'((conv=>whnf);first|refine Ab ?_|refine Aa hE rfl ?_|exact zE))
theorem sF (k:Int):Ac Tryz.prog 227 [iv k] (fun r=>r=bv (k==22||k==26)):=by
 refine acQ 9 Tryz.func227 rfl rfl fun _ _ _=> ?_
 (repeat'((conv=>whnf);first|refine Ab ?_|refine Ae ?_|(refine Ah (fun hc hcP=> ?_) (fun hc hcP=> ?_)<;>try(exfalso;omega))));(all_goals(conv=>whnf))
 all_goals(refine Ba ?_;(repeat'(first|refine And.intro ?_ ?_|exact rfl));(all_goals(conv=>whnf)))
 all_goals(simp_all)
def Gp (b:List UInt8):Bool:=dW b&&(!(Wi b==[])&& !(Pn b==22||Pn b==26))
def BS (b:List UInt8):AV:=if Gp b=true then .tup [txA (Pn b) (Wi b),bv true] else .tup [txA 0 [],bv false]
theorem Ta (b:List UInt8) (hb:b.length≤1000000):Ac Tryz.prog 192 [.d (Af false b)] (fun r=>r=BS b):=by
 have hS:=Wj b hb
 have h1:=sF (Pn b)
 unfold BS
 have gs:Gp b=(dW b&&(!(Wi b==[])&& !(Pn b==22||Pn b==26))):=rfl
 generalize Gp b=q at gs⊢
 generalize Pn b=K at hS h1 gs⊢
 generalize Wi b=V at hS gs⊢
 generalize dW b=Z at hS gs
 generalize (K==22||K==26)=O at h1 gs
 cases Z
 ·subst gs
  refine acQ 27 Tryz.func192 rfl rfl fun _ _ _=> ?_
  (repeat'((conv=>whnf);first|refine Ab ?_|refine Aa hS Je ?_|exact zE))
 ·cases hv:(V==[])
  ·rw[hv] at gs
   cases O
   all_goals
    subst gs
    refine acQ 27 Tryz.func192 rfl rfl fun _ _ _=> ?_
    (repeat'((conv=>whnf);first|refine Ab ?_|refine Ae ?_|refine Ay asP ?_|refine Aa hS Je ?_|refine Aa h1 rfl ?_|exact zE))
  ·rw[hv] at gs
   subst gs
   refine acQ 27 Tryz.func192 rfl rfl fun _ _ _=> ?_
   (repeat'((conv=>whnf);first|refine Ab ?_|refine Ae ?_|refine Av asP ?_|refine Aa hS Je ?_|exact zE))
def atV (a:Att):Bool:=E0 a.oid&&Ek a.val
theorem P7 (b:List UInt8):Ek b=(Iz b==0):=rfl
theorem Cv {p:Prop} (h:p:=by first|rfl|(simp only[AV.gives,AV.ren,AV.give,D.un,D.uns,Ai,Am,List.nil_append,List.append_nil,List.cons_append,At,E4,E5,Bm,A4,Ck];first|done|rfl)):p:=h
theorem Zl (a:Att) (ho:a.oid.length≤4000000) (hv:a.val.length≤1000000000):Ac Tryz.prog 95 [atA a] (fun r=>r=bv (atV a)):=by
 have hV:=V3 a.oid ho
 unfold atV
 rw[P7]
 generalize E0 a.oid=V at hV⊢
 rcases R8 a.val hv with⟨h1,ta,tq,tm,tk,tl,tcs,hT⟩|⟨h1,hT⟩
 ·rw[h1]
  cases V
  all_goals
   refine acQ 19 Tryz.func95 rfl rfl fun _ _ _=> ?_
   (repeat'((conv=>whnf);first|refine Ab ?_|refine Ae ?_|refine Aa hT Cv ?_|refine Aa hV rfl ?_|exact zE))
 ·generalize Kk a.val=tO at hT
  generalize Iz a.val=tc at hT h1⊢
  have g1:((tc:Int)==0)=false:=by rw[beq_eq_false_iff_ne];omega
  have g2:(tc==0)=false:=by rw[beq_eq_false_iff_ne];exact h1
  cases V
  all_goals
   refine acQ 19 Tryz.func95 rfl rfl fun _ _ _=> ?_
   (repeat'((conv=>whnf);first|refine Ab ?_|refine Ae ?_|refine Aa hT Cv ?_|refine Aa hV rfl ?_));(all_goals(conv=>whnf))
   all_goals(refine Ba ?_;(repeat'(first|exact Cp _|refine And.intro ?_ ?_|exact rfl));(all_goals(conv=>whnf)))
  all_goals(rw[g1,g2];try rfl)
def atE (a:Att):List UInt8:=Ao 0 16 true (Ao 0 6 false (Cd a.oid)++a.val)
theorem Wk {a:Att} (h:atV a=true):E0 a.oid=true∧Ek a.val=true:=by
 unfold atV at h;simpa using h
theorem Tb (a:Att) (ho:a.oid.length≤4000000) (hv:a.val.length≤100000000):Ac Tryz.prog 62 [atA a] (fun r=>r=if atV a=true then .tup [Cg 0 5 (atE a),iv 0] else .tup [Bj,iv 8]):=by
 have hV:=Zl a ho (by omega)
 by_cases h:atV a=true
 ·rw[if_pos h]
  rw[h] at hV
  have hE:=Rz a.oid ho
  rw[(Oi a.oid).1 (Wk h).1] at hE
  have k1:=Gm a.oid
  have hW:=Dk 0 6 false (Cd a.oid) (by omega) (by omega) (by omega)
  have k2:=A2 0 6 false (Cd a.oid) (by omega)
  have hQ:=P1 [Ao 0 6 false (Cd a.oid),a.val] (by simp;omega) (by simp)
  rw[show Ao 0 16 true [Ao 0 6 false (Cd a.oid),a.val].flatten=atE a by simp[atE]] at hQ
  refine acQ 35 Tryz.func62 rfl rfl fun _ _ _=> ?_
  (repeat'((conv=>whnf);first|refine Ae ?_|refine Aa hV Cv ?_|refine Aa hE rfl ?_|refine Aa hW Cv ?_|refine Aa hQ Cv ?_|exact zE))
 ·rw[if_neg h]
  rw[show atV a=false by simpa using h] at hV
  refine acQ 35 Tryz.func62 rfl rfl fun _ _ _=> ?_
  (repeat'((conv=>whnf);first|refine Ab ?_|refine Aa hV Cv ?_|exact zE))
def atO (b:List UInt8):Option Att:=match rX b with
 |some (id,s)=>if Ek s=true then some ⟨id,s⟩ else none
 |none=>none
def Sa (b:List UInt8) (r:LR):Nat×Nat:=if r.code≠0 then(r.code,r.off) else match r.l with
 |[x,y]=>if x.isB 0 6 false=false then(3,x.at') else if odC (bod b x)≠0 then(odC (bod b x),x.body) else(Iz (elO b y),y.at'+Kk (elO b y))
 |_::_::z::_=>(2,z.at')
 |_=>(1,b.length)
def atU (a:Att):List D:=[sD a.oid,Af true a.val]
def atR (o:Option Att) (e:Nat×Nat):AV:=match o with
 |some a=> .tup [.agg [sx a.oid,.d (Af true a.val)],erA 0 0]
 |none=> .tup [.agg [sx [],Bj],erA e.1 e.2]
theorem Fa (c o:Int):Ac Tryz.prog 200 [iv c,iv o] (fun r=>r= .tup [.agg [sx [],Bj],.agg [iv c,iv o]]):=by
 refine acQ 10 Tryz.func200 rfl rfl fun _ _ _=> ?_
 (all_goals(conv=>whnf))
 all_goals exact zE
theorem Zm (b:List UInt8) (hb:b.length≤800000):Ac Tryz.prog 147 [.d (Af false b)] (fun r=>r=atR (atO b) (Sa b (A6 b 0 16))):=by
 have hP:=Og b 0 16 (by omega)
 have hin:=fun x=>Ga (b:=b) (c:=0) (n:=16) (x:=x)
 have hO:atO b=match gO b (A6 b 0 16) with
  |some (id,s)=>if Ek s=true then some ⟨id,s⟩ else none
  |none=>none:=rfl
 generalize A6 b 0 16=r at hP hin hO⊢
 by_cases h1:r.code≠0
 ·rw[xB (.inl h1)] at hO
  rw[hO]
  have hF:=Fa r.code r.off
  rw[lrA,if_pos h1] at hP
  have gc:((r.code:Int) !=0)=true:=by rw[bne_iff_ne];omega
  rw[Sa,if_pos h1]
  generalize r.code=c at hP gc hF
  generalize r.off=o at hP hF
  refine acQ 127 Tryz.func147 rfl rfl fun _ _ _=> ?_
  (repeat'((conv=>whnf);first|refine Av asP ?_|refine Aa hP Cv ?_|refine Aa hF rfl ?_|exact zE))
 rw[lrA,if_neg h1] at hP
 rw[Sa,if_neg h1]
 obtain⟨l,c,o⟩:=r
 obtain rfl:c=0:=Decidable.not_not.1 h1
 match l with
 |[]=>
  have e:atO b=none:=hO
  rw[e]
  have hF:=Fa 1 b.length
  refine acQ 127 Tryz.func147 rfl rfl fun _ _ _=> ?_
  (repeat'((conv=>whnf);first|refine Ab ?_|refine Ae ?_|refine Aa hP Cv ?_|refine Aa hF rfl ?_|exact zE))
 |[x]=>
  have e:atO b=none:=hO
  rw[e]
  have hF:=Fa 1 b.length
  refine acQ 127 Tryz.func147 rfl rfl fun _ _ _=> ?_
  (repeat'((conv=>whnf);first|refine Ab ?_|refine Ae ?_|refine Aa hP Cv ?_|refine Aa hF rfl ?_|exact zE))
 |x::y::z::q=>
  have e:atO b=none:=hO
  rw[e]
  have hF:=Fa 2 z.at'
  have g2:(x::y::z::q:List El)[2]?=some z:=rfl
  refine acQ 127 Tryz.func147 rfl rfl fun _ _ _=> ?_
  (repeat'((conv=>whnf);first|refine Ae ?_|refine Aa hP Cv ?_|refine NIdx.tab (fun _=>rfl) g2 ?_|refine Aa hF rfl ?_|(refine NBr.mk (fun hc=> ?_) (fun hc=> ?_)<;>(have hcP:=hc;(try simp only[Ag,decide_eq_true_eq,decide_eq_false_iff_not] at hcP)<;>first|(exfalso;omega)|skip))|exact zE))
 |[x,y]=>
  obtain⟨x1,x2,x3⟩:=hin x (by simp)
  obtain⟨y1,y2,y3⟩:=hin y (by simp)
  have hI:=Vi x 0 6 false
  have hlb:(bod b x).length≤b.length:=by unfold bod;rw[Al,Aw];omega
  have hly:(elO b y).length≤b.length:=by unfold elO;rw[Al,Aw];omega
  have hD:=L7 (bod b x) (by omega)
  have hC:=K1 (elO b y) (by omega)
  have hT:=R8 (elO b y) (by omega)
  have hto:=Zj (elO b y)
  have hop:=P7 (elO b y)
  have g0:([x,y]:List El)[0]?=some x:=rfl
  have g1:([x,y]:List El)[1]?=some y:=rfl
  have hO':atO b=match(if x.isB 0 6 false=true∧odC (bod b x)=0 then some (odT (bod b x),elO b y) else none:Option (List UInt8×List UInt8)) with
   |some (id,s)=>if Ek s=true then some ⟨id,s⟩ else none
   |none=>none:=hO
  show Ac _ _ _ (fun r=>r=atR (atO b) (if x.isB 0 6 false=false then(3,x.at') else if odC (bod b x)≠0 then(odC (bod b x),x.body) else(Iz (elO b y),y.at'+Kk (elO b y))))
  cases hi:x.isB 0 6 false
  ·rw[hi] at hI hO'
   rw[if_neg (by simp)] at hO'
   rw[hO',if_pos rfl]
   have hF:=Fa 3 x.at'
   refine acQ 127 Tryz.func147 rfl rfl fun _ _ _=> ?_
   (repeat'((conv=>whnf);first|refine Ab ?_|refine Ae ?_|refine Aa hP Cv ?_|refine NIdx.tab (fun _=>rfl) g0 ?_|refine Aa hI rfl ?_|refine Aa hF rfl ?_|exact zE))
  rw[hi] at hI hO'
  rw[if_neg (by simp)]
  by_cases h3:odC (bod b x)=0
  ·rw[if_pos ⟨rfl,h3⟩] at hO'
   rw[if_neg (by omega)]
   have hO2:atO b=if Ek (elO b y)=true then some ⟨odT (bod b x),elO b y⟩ else none:=hO'
   rw[V5,h3] at hD
   rw[hop] at hO2
   unfold bod at hD hlb hO2
   generalize odT ((b.drop x.body).take (x.stop-x.body))=ot at hD hO2
   unfold elO at hC hT hto hly hO2⊢
   rcases hT with⟨h4,ta,tq,tm,tk,tl,tcs,hT⟩|⟨h4,hT⟩
   ·rw[h4] at hO2
    rw[if_pos (by rfl)] at hO2
    rw[hO2]
    refine acQ 127 Tryz.func147 rfl rfl fun _ _ _=> ?_
    (repeat'((conv=>whnf);first|refine Ae ?_|refine Aa hP Cv ?_|refine NIdx.tab (fun _=>rfl) g0 ?_|refine NIdx.tab (fun _=>rfl) g1 ?_|refine Aa hI rfl ?_|refine NSl.slice (x.body) (x.stop) ?_|refine NSl.slice (y.at') (y.stop) ?_|refine Aa hD Cv ?_|refine Aa hC Cv ?_|refine Aa hT Cv ?_|refine zF ?_|exact zE))
   ·rw[if_neg (by rw[beq_iff_eq];exact h4)] at hO2
    rw[hO2]
    have gd:((Iz ((b.drop y.at').take (y.stop-y.at')):Int) !=0)=true:=by rw[bne_iff_ne];omega
    have hF:=Fa (Iz ((b.drop y.at').take (y.stop-y.at'))) ((y.at'+Kk ((b.drop y.at').take (y.stop-y.at')):Nat):Int)
    generalize Kk ((b.drop y.at').take (y.stop-y.at'))=tO at hT hto hF⊢
    generalize Iz ((b.drop y.at').take (y.stop-y.at'))=tC at hT h4 gd hF⊢
    refine acQ 127 Tryz.func147 rfl rfl fun _ _ _=> ?_
    (repeat'((conv=>whnf);first|refine Ae ?_|refine Av asP ?_|refine Aa hP Cv ?_|refine NIdx.tab (fun _=>rfl) g0 ?_|refine NIdx.tab (fun _=>rfl) g1 ?_|refine Aa hI rfl ?_|refine NSl.slice (x.body) (x.stop) ?_|refine NSl.slice (y.at') (y.stop) ?_|refine Aa hD Cv ?_|refine Aa hC Cv ?_|refine Aa hT Cv ?_|refine NInt.as (((y.at'+tO:Nat):Int)) ((by rw[IntWalk.i64_in _ (by omega)];omega)) ?_|refine Aa hF rfl ?_|refine zF ?_|exact zE))
  ·rw[if_neg (fun h=>h3 h.2)] at hO'
   rw[hO',if_pos h3]
   have gd:((odC (bod b x):Int) !=0)=true:=by rw[bne_iff_ne];omega
   have hF:=Fa (odC (bod b x)) x.body
   rw[V5] at hD
   unfold bod at hD gd hF⊢
   generalize odC ((b.drop x.body).take (x.stop-x.body))=oc at hD gd hF⊢
   generalize odT ((b.drop x.body).take (x.stop-x.body))=ot at hD
   refine acQ 127 Tryz.func147 rfl rfl fun _ _ _=> ?_
   (repeat'((conv=>whnf);first|refine Ae ?_|refine Av asP ?_|refine Aa hP Cv ?_|refine NIdx.tab (fun _=>rfl) g0 ?_|refine Aa hI rfl ?_|refine NSl.slice (x.body) (x.stop) ?_|refine Aa hD Cv ?_|refine Aa hF rfl ?_|refine zF ?_|exact zE))
theorem Zn (b:List UInt8):atO b=none→(Sa b (A6 b 0 16)).1≠0∧(Sa b (A6 b 0 16)).2≤b.length:=by
 have hin:=fun x=>Ga (b:=b) (c:=0) (n:=16) (x:=x)
 have hoff:=Mb b 0 16
 have hO:atO b=match gO b (A6 b 0 16) with
  |some (id,s)=>if Ek s=true then some ⟨id,s⟩ else none
  |none=>none:=rfl
 rw[hO]
 generalize A6 b 0 16=r at hin hoff⊢
 intro h
 unfold Sa
 by_cases h1:r.code≠0
 ·rw[if_pos h1];exact⟨h1,hoff⟩
 rw[if_neg h1]
 obtain⟨l,c,o⟩:=r
 obtain rfl:c=0:=Decidable.not_not.1 h1
 match l with
 |[]=>exact⟨by simp,Nat.le_refl _⟩
 |[x]=>exact⟨by simp,Nat.le_refl _⟩
 |x::y::z::q=>
  have:=hin z (by simp)
  exact⟨by simp,by show z.at'≤_;omega⟩
 |[x,y]=>
  have hx:=hin x (by simp)
  have hy:=hin y (by simp)
  have hl:(elO b y).length≤y.stop-y.at':=by unfold elO;rw[Al];omega
  have hto:=Zj (elO b y)
  have h':(match(if x.isB 0 6 false=true∧odC (bod b x)=0 then some (odT (bod b x),elO b y) else none:Option (List UInt8×List UInt8)) with
   |some (id,s)=>if Ek s=true then some (⟨id,s⟩:Att) else none
   |none=>none)=none:=h
  simp only
  cases hi:x.isB 0 6 false
  ·rw[if_pos rfl];exact⟨by simp,by show x.at'≤_;omega⟩
  rw[if_neg (by simp)]
  by_cases h3:odC (bod b x)=0
  ·rw[if_neg (by omega)]
   rw[if_pos ⟨hi,h3⟩] at h'
   have h2:(if Ek (elO b y)=true then some (⟨odT (bod b x),elO b y⟩:Att) else none)=none:=h'
   rw[P7] at h2
   refine⟨fun e=> ?_,by show y.at'+Kk (elO b y)≤_;omega⟩
   have e:Iz (elO b y)=0:=e
   rw[e,if_pos (by rfl)] at h2;cases h2
  ·rw[if_pos h3];exact⟨h3,by show x.body≤_;omega⟩
def Ea (r:List Att):Bool:= !r.isEmpty&&(r.all atV&&F6 (r.map atE))
def C8 (r:List Att):List UInt8:=Ao 0 17 true (r.map atE).flatten
def nmV (n:List (List Att)):Bool:=n.all Ea
def nmE (n:List (List Att)):List UInt8:=Ao 0 16 true (n.map C8).flatten
theorem Wl {r:List Att} (h:Ea r=true):r≠[]∧r.all atV=true∧F6 (r.map atE)=true:=by
 unfold Ea at h
 simp only[Ap] at h
 exact⟨by rintro rfl;simp at h,h.2.1,h.2.2⟩
theorem Wm {α:Type} {f:α→Bool} {l:List α} {i:Nat} {x:α} (h:l[i]?=some x) (hf:f x=false):l.all f=false:=by
 cases hh:l.all f with
 |false=>rfl
 |true=>rw[List.all_eq_true.1 hh x (Bk h)] at hf;cases hf
theorem I0 {p:Prop} (h:p:=by first|rfl|(simp only[AV.gives,AV.ren,AV.give,D.un,D.uns,Ai,Am,List.nil_append,List.append_nil,List.cons_append,List.map_cons,List.map_nil,AV.frzs,AV.frz,List.drop_zero,At,E4,E5,Bm,A4,Ck,C7,Be];first|done|rfl)):p:=h
theorem dX (r:List Att) (i:Nat) {x:Att} (hg:r[i]?=some x) (hx:x.oid.length≤4000000∧x.val.length≤100000000):Ac Tryz.prog 61 [iv i,.d (.cp false [Dm r])] (fun r=>r=if atV x=true then .tup [Cg 0 5 (atE x),iv 0] else .tup [Bj,iv 8]):=by
 have hM:=Tb x hx.1 hx.2
 by_cases h:atV x=true
 all_goals
  first|rw[if_pos h] at hM⊢ |rw[if_neg h] at hM⊢
  refine acQ 12 Tryz.func61 rfl rfl fun _ _ _=> ?_
  (repeat'((conv=>whnf);first|refine NIdx.tab (fun _=>rfl) hg ?_|refine Aa hM I0 ?_|exact zE))
theorem Wn (r:List Att) (hl:r.length≤100000) (hs:∀x∈r,x.oid.length≤4000000∧x.val.length≤100000000) (hq:(r.map atE).flatten.length≤100000000) (hp:∀x∈r,(atE x).length≤100000000):Ac Tryz.prog 60 [.agg [iv 17,bv true],iv r.length,.cl 61 [] [.d (.cp false [Dm r])]] (fun q=>q=if r.all atV=true∧F6 (r.map atE)=true then .tup [Cg 0 5 (Ao 0 17 true (r.map atE).flatten),iv 0] else .tup [Bj,iv 8]):=by
 have hW:=M7 0 17 true (r.map atE) (by omega) (by omega) (by omega) (by rw[List.length_map];omega)
 have hO2:=Pb (r.map atE) (by rw[List.length_map];omega) (fun p hp0=>by
  obtain⟨x,hx,rfl⟩:=List.mem_map.1 hp0
  have:=hp x hx;omega)
 refine acQ 43 Tryz.func60 rfl rfl fun _ _ _=> ?_
 (all_goals(conv=>whnf))
 refine Bt [.s 8 1 33] (fun i:Nat=>i≤r.length∧(r.take i).all atV=true) (fun i=>r.length-i) (fun i=>⟨[(2,.cl 61 [] [.d (.cp false [Dm r])]),(3,.ptr 3 0),(8,C7 8 1 33 Jo ((r.take i).map atE)),(12,iv r.length),(13,iv i)],[(3,[iv 17,bv true])],[(8,(((r.take i).map atE).length,1,33))]⟩) 0 ⟨by omega,rfl⟩ leQ ?_
 rintro i ⟨hi,ha⟩
 have hml:((r.take i).map atE).length≤100000:=by rw[List.length_map,Al];omega
 by_cases hik:i<r.length
 ·have gi:decide ((i:Int)<r.length)=true:=decide_eq_true (by omega)
  obtain⟨x,hg⟩:∃p,r[i]?=some p:=⟨_,Ak hik⟩
  have hO:=dX r i hg (hs x (Bk hg))
  cases hv:atV x
  ·rw[hv,if_neg (by simp)] at hO
   rw[if_neg (by rintro⟨h,-⟩;rw[Wm hg hv] at h;cases h)]
   (repeat'((conv=>whnf);first|refine Ab ?_|refine Av asP ?_|refine Aa hO I0 ?_|exact zE))
  ·rw[hv,if_pos rfl] at hO
   have hs':=No atE hg
   (repeat'((conv=>whnf);first|refine Ae ?_|refine Av asP ?_|refine Aa hO I0 ?_|refine A8 Jo (atE x) ?_|(with_reducible refine NInt.i64 ?_)));(all_goals(conv=>whnf))
   refine⟨i+1,⟨by omega,Eo atV hg hv ha⟩,by omega,?_⟩
   rw[hs']
   exact leQ
 ·have gi:decide ((i:Int)<r.length)=false:=decide_eq_false (by omega)
  obtain rfl:i=r.length:=by omega
  rw[List.take_length] at ha⊢
  cases ho:F6 (r.map atE)
  ·rw[ho] at hO2
   rw[if_neg (by rintro⟨-,h⟩;cases h)]
   (repeat'((conv=>whnf);first|refine Ab ?_|refine Ay asP ?_|refine Aa hO2 I0 ?_|exact zE))
  ·rw[ho] at hO2
   rw[if_pos ⟨ha,rfl⟩]
   (repeat'((conv=>whnf);first|refine Ab ?_|refine Ae ?_|refine Ay asP ?_|refine Aa hO2 I0 ?_|refine Aa hW I0 ?_|exact zE))
structure Att.sm (a:Att):Prop where
 o:a.oid.length≤3000000
 v:a.val.length≤3000000
theorem gQ {a:Att} (h:a.sm):(atE a).length≤a.oid.length*5+a.val.length+20:=by
 have h1:=Gm a.oid
 have:=h.o
 have:=h.v
 have h2:=A2 0 6 false (Cd a.oid) (by omega)
 have h3:=A2 0 16 true (Ao 0 6 false (Cd a.oid)++a.val) (by rw[Aj];omega)
 rw[Aj] at h3
 have e:(atE a).length=(Ao 0 16 true (Ao 0 6 false (Cd a.oid)++a.val)).length:=rfl
 omega
structure rdnZ (r:List Att):Prop where
 l:r.length≤100000
 a:∀a∈r,a.sm
 e:(r.map atE).flatten.length≤90000000
structure nmZ (n:List (List Att)):Prop where
 l:n.length≤100000
 r:∀r∈n,rdnZ r
 e:(n.map C8).flatten.length≤90000000
theorem Hf (r:List Att) (hz:rdnZ r):Ac Tryz.prog 27 [.d (Dm r)] (fun q=>q=if Ea r=true then .tup [Cg 0 5 (C8 r),iv 0] else .tup [Bj,iv 8]):=by
 obtain⟨hl,hs,hq⟩:=hz
 have hS:=Wn r (by omega) (fun a ha=>by have:=(hs a ha).o;have:=(hs a ha).v;exact⟨by omega,by omega⟩) (by omega) (fun a ha=>by have:=gQ (hs a ha);have:=(hs a ha).o;have:=(hs a ha).v;omega)
 cases r with
 |nil=>
  show Ac _ _ _ (fun q=>q= .tup [Bj,iv 8])
  refine acQ 17 Tryz.func27 rfl rfl fun _ _ _=> ?_
  (repeat'((conv=>whnf);refine Ab ?_));(all_goals(conv=>whnf))
  all_goals exact zE
 |cons a q=>
  have gl:(((a::q).length:Int)==0)=false:=by rw[beq_eq_false_iff_ne,Ag];omega
  by_cases h:Ea (a::q)=true
  ·rw[if_pos h]
   rw[if_pos (Wl h).2] at hS
   unfold C8
   generalize (a::q)=r at hS gl
   refine acQ 17 Tryz.func27 rfl rfl fun _ _ _=> ?_
   (repeat'((conv=>whnf);first|refine Ay asP ?_|refine Aa hS I0 ?_|exact zE))
  ·rw[if_neg h]
   rw[if_neg (fun k=>h (by unfold Ea;rw[k.1,k.2];rfl))] at hS
   generalize (a::q)=r at hS gl
   refine acQ 17 Tryz.func27 rfl rfl fun _ _ _=> ?_
   (repeat'((conv=>whnf);first|refine Ay asP ?_|refine Aa hS I0 ?_|exact zE))
theorem mL (r:List (List Att)) (i:Nat) {x:List Att} (hg:r[i]?=some x) (hx:rdnZ x):Ac Tryz.prog 132 [iv i,.d (.cp false [Ff r])] (fun r=>r=if Ea x=true then .tup [Cg 0 5 (C8 x),iv 0] else .tup [Bj,iv 8]):=by
 have hM:=Hf x hx
 by_cases h:Ea x=true
 all_goals
  first|rw[if_pos h] at hM⊢ |rw[if_neg h] at hM⊢
  refine acQ 12 Tryz.func132 rfl rfl fun _ _ _=> ?_
  (repeat'((conv=>whnf);first|refine NIdx.tab (fun _=>rfl) hg ?_|refine Aa hM I0 ?_|exact zE))
theorem Zo (r:List (List Att)) (hl:r.length≤100000) (hs:∀x∈r,rdnZ x) (hq:(r.map C8).flatten.length≤100000000) (_:∀x∈r,(C8 x).length≤100000000):Ac Tryz.prog 60 [.agg [iv 16,bv false],iv r.length,.cl 132 [] [.d (.cp false [Ff r])]] (fun q=>q=if r.all Ea=true then .tup [Cg 0 5 (Ao 0 16 true (r.map C8).flatten),iv 0] else .tup [Bj,iv 8]):=by
 have hW:=M7 0 16 true (r.map C8) (by omega) (by omega) (by omega) (by rw[List.length_map];omega)
 refine acQ 43 Tryz.func60 rfl rfl fun _ _ _=> ?_
 (all_goals(conv=>whnf))
 refine Bt [.s 8 1 33] (fun i:Nat=>i≤r.length∧(r.take i).all Ea=true) (fun i=>r.length-i) (fun i=>⟨[(2,.cl 132 [] [.d (.cp false [Ff r])]),(3,.ptr 3 0),(8,C7 8 1 33 Jo ((r.take i).map C8)),(12,iv r.length),(13,iv i)],[(3,[iv 16,bv false])],[(8,(((r.take i).map C8).length,1,33))]⟩) 0 ⟨by omega,rfl⟩ leQ ?_
 rintro i ⟨hi,ha⟩
 have hml:((r.take i).map C8).length≤100000:=by rw[List.length_map,Al];omega
 by_cases hik:i<r.length
 ·have gi:decide ((i:Int)<r.length)=true:=decide_eq_true (by omega)
  obtain⟨x,hg⟩:∃p,r[i]?=some p:=⟨_,Ak hik⟩
  have hO:=mL r i hg (hs x (Bk hg))
  cases hv:Ea x
  ·rw[hv,if_neg (by simp)] at hO
   rw[if_neg (by rintro h;rw[Wm hg hv] at h;cases h)]
   (repeat'((conv=>whnf);first|refine Ab ?_|refine Av asP ?_|refine Aa hO I0 ?_|exact zE))
  ·rw[hv,if_pos rfl] at hO
   have hs':=No C8 hg
   (repeat'((conv=>whnf);first|refine Ae ?_|refine Av asP ?_|refine Aa hO I0 ?_|refine A8 Jo (C8 x) ?_|(with_reducible refine NInt.i64 ?_)));(all_goals(conv=>whnf))
   refine⟨i+1,⟨by omega,Eo Ea hg hv ha⟩,by omega,?_⟩
   rw[hs']
   exact leQ
 ·have gi:decide ((i:Int)<r.length)=false:=decide_eq_false (by omega)
  obtain rfl:i=r.length:=by omega
  rw[List.take_length] at ha⊢
  rw[if_pos ha]
  (repeat'((conv=>whnf);first|refine Ae ?_|refine Ay asP ?_|refine Aa hW I0 ?_|exact zE))
theorem mM (n:List (List Att)) (h:nmZ n):Ac Tryz.prog 100 [.d (Ff n)] (fun q=>q=if nmV n=true then .tup [Cg 0 5 (nmE n),iv 0] else .tup [Bj,iv 8]):=by
 have hq:=h.e
 have hl:=h.l
 have hS:=Zo n (by omega) h.r (by omega) (fun r hr=>by
  have:=Kj (p:=C8 r) (l:=n.map C8) (List.mem_map_of_mem hr)
  omega)
 unfold nmV nmE
 by_cases hv:n.all Ea=true
 all_goals
  first|rw[if_pos hv] at hS⊢ |rw[if_neg hv] at hS⊢
  refine acQ 14 Tryz.func100 rfl rfl fun _ _ _=> ?_
  (repeat'((conv=>whnf);refine Aa hS I0 ?_));(all_goals(conv=>whnf))
  all_goals exact zE
theorem sG (l:List (List UInt8)):D.uns (l.flatMap Hr)=l.flatMap Hr:=by
 induction l with
 |nil=>rfl
 |cons p r ih=>
  show D.un (Af false p)::D.uns (r.flatMap Hr)=_
  rw[Ai,ih];rfl
def sH (r:List Att):D:=Ey true 2 atU r
theorem gR (l:List Att):D.uns (l.flatMap atU)=l.flatMap atC:=by
 induction l with
 |nil=>rfl
 |cons m r ih=>
  show D.un (sD m.oid)::D.un (Af true m.val)::D.uns (r.flatMap atU)=_
  rw[Ai,ih];rfl
theorem Cn (r:List Att):(sH r).un=Dm r:=by
 show D.sl false r.length 2 (D.uns (r.flatMap atU))=_
 rw[gR];rfl
def Ud (r:List Att):List D:=[sH r]
def Ue (n:List (List Att)):D:=Ey true 1 Ud n
theorem Uf (n:List (List Att)):D.uns (n.flatMap Ud)=n.flatMap lH:=by
 induction n with
 |nil=>rfl
 |cons m r ih=>
  show D.un (sH m)::D.uns (r.flatMap Ud)=_
  rw[Cn,ih];rfl
theorem Bp (n:List (List Att)):(Ue n).un=Ff n:=by
 show D.sl false n.length 1 (D.uns (n.flatMap Ud))=_
 rw[Uf];rfl
def Zp (b:List UInt8):Nat×Nat:=Sa b (A6 b 0 16)
def Po (b:List UInt8):List El→List (List UInt8)→List Att→Option (List Att)×Nat×Nat
 |[],_,out=>(some out,0,0)
 |x::r,ps,out=>match atO (elO b x) with
  |none=>(none,(Zp (elO b x)).1,x.at'+(Zp (elO b x)).2)
  |some a=>if F6 (ps++[elO b x])=true then Po b r (ps++[elO b x]) (out++[a]) else(none,7,x.at')
def xE (b:List UInt8) (r:LR):Option (List Att)×Nat×Nat:=if r.code≠0 then(none,r.code,r.off) else if r.l=[] then(none,1,b.length) else Po b r.l [] []
def Mc (b:List UInt8):Option (List Att)×Nat×Nat:=xE b (A6 b 0 17)
def EW:Option (List Att)×Nat×Nat→AV
 |(some r,_,_)=> .tup [.d (sH r),erA 0 0]
 |(none,c,o)=> .tup [Bj,erA c o]
theorem Wo (b:List UInt8) (x:El):(elO b x).length≤b.length:=by unfold elO;rw[Al,Aw];omega
theorem Wp (b:List UInt8) (x:El):(elO b x).length≤x.stop-x.at':=by unfold elO;rw[Al];omega
theorem Gs {p:Prop} (h:p:=by first|rfl|(simp only[AV.gives,AV.ren,AV.give,D.un,D.uns,Ai,Am,List.nil_append,List.append_nil,List.cons_append,At,A5,E4,E5,Bm,A4,Ck,C7,Be,sG];first|done|rfl)):p:=h
theorem dY (b:List UInt8) (hb:b.length≤800000):Ac Tryz.prog 107 [.d (Af false b)] (fun r=>r=EW (Mc b)):=by
 have hP:=Og b 0 17 (by omega)
 have hin:=fun x=>Ga (b:=b) (c:=0) (n:=17) (x:=x)
 have hcn:=R7 b 0 17
 unfold Mc
 generalize A6 b 0 17=R at hP hin hcn⊢
 unfold xE
 by_cases h1:R.code≠0
 ·rw[if_pos h1]
  rw[lrA,if_pos h1] at hP
  have gc:((R.code:Int) !=0)=true:=by rw[bne_iff_ne];omega
  generalize R.code=c at hP gc
  generalize R.off=o at hP
  show Ac _ _ _ (fun r=>r= .tup [Bj,erA c o])
  refine acQ 76 Tryz.func107 rfl rfl fun _ _ _=> ?_
  (repeat'((conv=>whnf);first|refine Av asP ?_|refine Aa hP Gs ?_|refine zF ?_|exact zE))
 rw[if_neg h1]
 rw[lrA,if_neg h1] at hP
 generalize R.l=l at hP hin hcn⊢
 by_cases hl:l=[]
 ·subst hl
  show Ac _ _ _ (fun r=>r= .tup [Bj,erA 1 b.length])
  refine acQ 76 Tryz.func107 rfl rfl fun _ _ _=> ?_
  (repeat'((conv=>whnf);first|refine Ab ?_|refine Ae ?_|refine Aa hP Gs ?_|exact zE))
 rw[if_neg hl]
 have gl:((l.length:Int)==0)=false:=by rw[beq_eq_false_iff_ne];intro h;exact hl (List.eq_nil_of_length_eq_zero (by omega))
 generalize hQ:Po b l [] []=q
 refine acQ 76 Tryz.func107 rfl rfl fun _ _ _=> ?_
 (repeat'((conv=>whnf);first|refine Ae ?_|refine Ay asP ?_|refine Aa hP Gs ?_));(all_goals(conv=>whnf))
 refine Bt [.s 6 2 101,.s 7 1 33] (fun z:Nat×List (List UInt8)×List Att=>z.1≤l.length∧z.2.1.length≤z.1∧z.2.2.length≤z.1∧(∀p∈z.2.1,p.length≤b.length)∧q=Po b (l.drop z.1) z.2.1 z.2.2) (fun z=>l.length-z.1) (fun z=>⟨[(0,.d (Af false b)),(3,.ptr 3 0),(6,C7 6 2 101 atU z.2.2),(7,C7 7 1 33 Hr z.2.1),(27,.d (qO l)),(28,iv l.length),(29,iv z.1)],[(3,[iv 0,iv 0])],[(6,(z.2.2.length,2,101)),(7,(z.2.1.length,1,33))]⟩) (0,[],[]) ⟨by simp,by simp,by simp,by simp,by rw[List.drop_zero];exact hQ.symm⟩ leQ ?_
 rintro⟨i,ps,out⟩ ⟨hi,hps,hou,hpl,he⟩
 simp only at hi hps hou hpl he
 by_cases hik:i<l.length
 ·have gi:decide ((i:Int)<l.length)=true:=decide_eq_true (by omega)
  obtain⟨x,hg⟩:∃p,l[i]?=some p:=⟨_,Ak hik⟩
  obtain⟨x1,x2,x3⟩:=hin x (Bk hg)
  have hel:=Wo b x
  have hle:=Wp b x
  have hA:=Zm (elO b x) (by omega)
  have hAe:=Zn (elO b x)
  rw[Uc hg,Po] at he
  have hA:Ac Tryz.prog 147 [.d (Af false (elO b x))] (fun r=>r=atR (atO (elO b x)) (Zp (elO b x))):=hA
  have hAe:atO (elO b x)=none→(Zp (elO b x)).1≠0∧(Zp (elO b x)).2≤(elO b x).length:=hAe
  generalize Zp (elO b x)=er at hA hAe he
  cases ho:atO (elO b x) with
  |none=>
   rw[ho] at hA he
   obtain⟨e1,e2⟩:=hAe ho
   obtain⟨ec,eo⟩:=er
   simp only at e1 e2 he
   subst he
   have gc:((ec:Int) !=0)=true:=by rw[bne_iff_ne];omega
   have hA:Ac Tryz.prog 147 [.d (Af false (elO b x))] (fun r=>r= .tup [.agg [sx [],Bj],erA ec eo]):=hA
   unfold elO at hA e2
   (repeat'((conv=>whnf);first|refine Av asP ?_|refine NIdx.tab (fun _=>rfl) hg ?_|refine NSl.slice (x.at') (x.stop) ?_|refine A8 Hr ((b.drop x.at').take (x.stop-x.at')) ?_|refine Aa hA Gs ?_|(with_reducible refine NInt.i64 ?_)|refine zF ?_|exact zE))
  |some a=>
   rw[ho] at hA he
   have hA:Ac Tryz.prog 147 [.d (Af false (elO b x))] (fun r=>r= .tup [.agg [sx a.oid,.d (Af true a.val)],erA 0 0]):=hA
   simp only at he
   have hOr:=Pb (ps++[elO b x]) (by rw[Aj,List.length_singleton];omega) (fun p hp=>by
    rcases List.mem_append.1 hp with h|h
    ·have:=hpl p h;omega
    ·rw[List.mem_singleton.1 h];omega)
   unfold elO at hA hOr he
   cases hor:F6 (ps++[(b.drop x.at').take (x.stop-x.at')])
   ·rw[hor] at hOr he
    rw[if_neg (by simp)] at he
    subst he
    (repeat'((conv=>whnf);first|refine Ab ?_|refine Ae ?_|refine Av asP ?_|refine NIdx.tab (fun _=>rfl) hg ?_|refine NSl.slice (x.at') (x.stop) ?_|refine A8 Hr ((b.drop x.at').take (x.stop-x.at')) ?_|refine Aa hA Gs ?_|refine Aa hOr Gs ?_|refine zF ?_|exact zE))
   ·rw[hor] at hOr he
    rw[if_pos rfl] at he
    (repeat'((conv=>whnf);first|refine Ae ?_|refine Av asP ?_|refine NIdx.tab (fun _=>rfl) hg ?_|refine NSl.slice (x.at') (x.stop) ?_|refine A8 Hr ((b.drop x.at').take (x.stop-x.at')) ?_|refine Aa hA Gs ?_|refine Aa hOr Gs ?_|refine A8 atU a ?_|(with_reducible refine NInt.i64 ?_)));(all_goals(conv=>whnf))
    refine⟨(i+1,ps++[(b.drop x.at').take (x.stop-x.at')],out++[a]),⟨by show i+1≤_;omega,by simp;omega,by simp;omega,fun p hp=> ?_,he⟩,by show l.length-(i+1)<l.length-i;omega,?_⟩
    ·rcases List.mem_append.1 hp with h|h
     ·exact hpl p h
     ·rw[List.mem_singleton.1 h];exact hel
    ·exact leQ
 ·have gi:decide ((i:Int)<l.length)=false:=decide_eq_false (by omega)
  obtain rfl:i=l.length:=by omega
  rw[List.drop_length,Po] at he
  subst he
  (repeat'((conv=>whnf);refine Ay asP ?_));(all_goals(conv=>whnf))
  all_goals exact zE
def nmL (b:List UInt8):List El→List (List Att)→Option (List (List Att))×Nat×Nat
 |[],out=>(some out,0,0)
 |x::r,out=>match Mc (elO b x) with
  |(none,c,o)=>(none,c,x.at'+o)
  |(some a,_,_)=>nmL b r (out++[a])
def nmQ (b:List UInt8) (r:LR):Option (List (List Att))×Nat×Nat:=if r.code≠0 then(none,r.code,r.off) else nmL b r.l []
def nmR (b:List UInt8):Option (List (List Att))×Nat×Nat:=nmQ b (A6 b 0 16)
def nmA:Option (List (List Att))×Nat×Nat→AV
 |(some r,_,_)=> .tup [.d (Ue r),erA 0 0]
 |(none,c,o)=> .tup [Bj,erA c o]
theorem gS (b:List UInt8):∀(l:List El) (ps:List (List UInt8)) (out:List Att),(∀x∈l,x.at'≤x.stop∧x.stop≤b.length)→(Po b l ps out).1=none→(Po b l ps out).2.1≠0∧(Po b l ps out).2.2≤b.length
 |[],_,_,_,h=>by cases h
 |x::r,ps,out,hx,h=>by
  have hle:=Wp b x
  have hAe:atO (elO b x)=none→(Zp (elO b x)).1≠0∧(Zp (elO b x)).2≤(elO b x).length:=Zn (elO b x)
  have:=hx x (by simp)
  rw[Po] at h⊢
  cases ho:atO (elO b x) with
  |none=>obtain⟨e1,e2⟩:=hAe ho;exact⟨e1,by show x.at'+_≤_;omega⟩
  |some a=>
   rw[ho] at h
   simp only at h⊢
   by_cases hor:F6 (ps++[elO b x])=true
   ·rw[if_pos hor] at h⊢
    exact gS b r _ _ (fun y hy=>hx y (by simp[hy])) h
   ·rw[if_neg hor];exact⟨by simp,by show x.at'≤_;omega⟩
theorem gT (b:List UInt8) (h:(Mc b).1=none):(Mc b).2.1≠0∧(Mc b).2.2≤b.length:=by
 have hin:=fun x=>Ga (b:=b) (c:=0) (n:=17) (x:=x)
 have hoff:=Mb b 0 17
 unfold Mc at h⊢
 generalize A6 b 0 17=R at hin hoff h⊢
 unfold xE at h⊢
 by_cases h1:R.code≠0
 ·rw[if_pos h1];exact⟨h1,hoff⟩
 rw[if_neg h1] at h⊢
 by_cases hl:R.l=[]
 ·rw[if_pos hl];exact⟨by simp,Nat.le_refl _⟩
 ·rw[if_neg hl] at h⊢
  exact gS b R.l [] [] (fun y hy=>by have:=hin y hy;omega) h
theorem mN (b:List UInt8) (hb:b.length≤800000):Ac Tryz.prog 191 [.d (Af false b)] (fun r=>r=nmA (nmR b)):=by
 have hP:=Og b 0 16 (by omega)
 have hin:=fun x=>Ga (b:=b) (c:=0) (n:=16) (x:=x)
 have hcn:=R7 b 0 16
 unfold nmR
 generalize A6 b 0 16=R at hP hin hcn⊢
 unfold nmQ
 by_cases h1:R.code≠0
 ·rw[if_pos h1]
  rw[lrA,if_pos h1] at hP
  have gc:((R.code:Int) !=0)=true:=by rw[bne_iff_ne];omega
  generalize R.code=c at hP gc
  generalize R.off=o at hP
  show Ac _ _ _ (fun r=>r= .tup [Bj,erA c o])
  refine acQ 54 Tryz.func191 rfl rfl fun _ _ _=> ?_
  (repeat'((conv=>whnf);first|refine Av asP ?_|refine Aa hP Gs ?_|refine zF ?_|exact zE))
 rw[if_neg h1]
 rw[lrA,if_neg h1] at hP
 generalize R.l=l at hP hin hcn⊢
 generalize hQ:nmL b l []=q
 refine acQ 54 Tryz.func191 rfl rfl fun _ _ _=> ?_
 (repeat'((conv=>whnf);first|refine Ae ?_|refine Aa hP Gs ?_));(all_goals(conv=>whnf))
 refine Bt [.s 6 1 24] (fun z:Nat×List (List Att)=>z.1≤l.length∧z.2.length≤z.1∧q=nmL b (l.drop z.1) z.2) (fun z=>l.length-z.1) (fun z=>⟨[(0,.d (Af false b)),(3,.ptr 3 0),(6,C7 6 1 24 Ud z.2),(20,.d (qO l)),(21,iv l.length),(22,iv z.1)],[(3,[iv 0,iv 0])],[(6,(z.2.length,1,24))]⟩) (0,[]) ⟨by simp,by simp,by rw[List.drop_zero];exact hQ.symm⟩ leQ ?_
 rintro⟨i,out⟩ ⟨hi,hou,he⟩
 simp only at hi hou he
 by_cases hik:i<l.length
 ·have gi:decide ((i:Int)<l.length)=true:=decide_eq_true (by omega)
  obtain⟨x,hg⟩:∃p,l[i]?=some p:=⟨_,Ak hik⟩
  obtain⟨x1,x2,x3⟩:=hin x (Bk hg)
  have hel:=Wo b x
  have hle:=Wp b x
  have hA:=dY (elO b x) (by omega)
  have hAe:=gT (elO b x)
  rw[Uc hg,nmL] at he
  generalize Mc (elO b x)=er at hA hAe he
  obtain⟨eo,ec,ep⟩:=er
  cases eo with
  |none=>
   obtain⟨e1,e2⟩:=hAe rfl
   simp only at e1 e2 he
   subst he
   have gc:((ec:Int) !=0)=true:=by rw[bne_iff_ne];omega
   have hA:Ac Tryz.prog 107 [.d (Af false (elO b x))] (fun r=>r= .tup [Bj,erA ec ep]):=hA
   unfold elO at hA e2
   (repeat'((conv=>whnf);first|refine Av asP ?_|refine NIdx.tab (fun _=>rfl) hg ?_|refine NSl.slice (x.at') (x.stop) ?_|refine Aa hA Gs ?_|(with_reducible refine NInt.i64 ?_)|refine zF ?_|exact zE))
  |some a=>
   simp only at he
   have hA:Ac Tryz.prog 107 [.d (Af false (elO b x))] (fun r=>r= .tup [.d (sH a),erA 0 0]):=hA
   unfold elO at hA
   (repeat'((conv=>whnf);first|refine Ae ?_|refine Av asP ?_|refine NIdx.tab (fun _=>rfl) hg ?_|refine NSl.slice (x.at') (x.stop) ?_|refine Aa hA Gs ?_|refine A8 Ud a ?_|(with_reducible refine NInt.i64 ?_)));(all_goals(conv=>whnf))
   refine⟨(i+1,out++[a]),⟨by show i+1≤_;omega,by simp;omega,he⟩,by show l.length-(i+1)<l.length-i;omega,?_⟩
   exact leQ
 ·have gi:decide ((i:Int)<l.length)=false:=decide_eq_false (by omega)
  obtain rfl:i=l.length:=by omega
  rw[List.drop_length,nmL] at he
  subst he
  (repeat'((conv=>whnf);refine Ay asP ?_));(all_goals(conv=>whnf))
  all_goals exact zE
theorem sI (b:List UInt8):∀(l:List El) (out:List (List Att)),(∀x∈l,x.at'≤x.stop∧x.stop≤b.length)→(nmL b l out).1=none→(nmL b l out).2.1≠0∧(nmL b l out).2.2≤b.length
 |[],_,_,h=>by cases h
 |x::r,out,hx,h=>by
  have hle:=Wp b x
  have hAe:=gT (elO b x)
  have:=hx x (by simp)
  rw[nmL] at h⊢
  generalize Mc (elO b x)=er at hAe h⊢
  obtain⟨eo,ec,ep⟩:=er
  cases eo with
  |none=>obtain⟨e1,e2⟩:=hAe rfl;exact⟨e1,by show x.at'+ep≤_;simp only at e2;omega⟩
  |some a=>exact sI b r _ (fun y hy=>hx y (by simp[hy])) h
theorem BT (b:List UInt8) (h:(nmR b).1=none):(nmR b).2.1≠0∧(nmR b).2.2≤b.length:=by
 have hin:=fun x=>Ga (b:=b) (c:=0) (n:=16) (x:=x)
 have hoff:=Mb b 0 16
 unfold nmR at h⊢
 generalize A6 b 0 16=R at hin hoff h⊢
 unfold nmQ at h⊢
 by_cases h1:R.code≠0
 ·rw[if_pos h1];exact⟨h1,hoff⟩
 rw[if_neg h1] at h⊢
 exact sI b R.l [] (fun y hy=>by have:=hin y hy;omega) h
abbrev gnQ (g:Gn):AV:= .agg [iv g.k,.d (sD g.oid),.d (sD g.tx),.d (Af true g.by'),.d (Ue g.nm),iv g.ak,.d (sD g.av),iv g.pk,.d (sD g.pv)]
def gz:Gn:=⟨0,[],[],[],[],0,[],0,[]⟩
abbrev ptA (k:Int) (c:List UInt8):AV:= .agg [iv k,.d (Af false c)]
abbrev gbA (p:Gn×Bool):AV:= .tup [gnQ p.1,bv p.2]
theorem Cw {p:Prop} (h:p:=by first|rfl|(simp only[AV.gives,AV.ren,AV.give,D.un,D.uns,Ai,Am,List.nil_append,List.append_nil,List.cons_append,At,A5,Cm,Bm,A4,Cf,Ck,Cn,Bp];first|done|rfl)):p:=h
theorem On (k:Int) (c:List UInt8) (hl:c.length≤1000000):Ac Tryz.prog 134 [ptA k c] (fun r=>r=gbA (⟨k,[],Fv 22 c,[],[],0,[],0,[]⟩,Fx 22 c==0)):=by
 have hE:=M9 22 c hl
 refine acQ 19 Tryz.func134 rfl rfl fun _ _ _=> ?_
 (repeat'((conv=>whnf);refine Aa hE Cw ?_));(all_goals(conv=>whnf))
 all_goals exact zE
theorem Sb (k:Int) (c:List UInt8) (hl:c.length≤1000000):Ac Tryz.prog 135 [ptA k c] (fun r=>r=gbA (⟨k,[],[],c,[],0,[],0,[]⟩,true)):=by
 have hE:=K1 c (by omega)
 refine acQ 10 Tryz.func135 rfl rfl fun _ _ _=> ?_
 (repeat'((conv=>whnf);first|refine Aa hE Cw ?_|refine zF ?_|exact zE))
theorem Zq (k:Int) (c:List UInt8) (hl:c.length≤800000):Ac Tryz.prog 138 [ptA k c] (fun r=>r=gbA (⟨k,odT c,[],[],[],0,[],0,[]⟩,(odC c:Int)==0)):=by
 have hE:=L7 c (by omega)
 rw[V5] at hE
 refine acQ 18 Tryz.func138 rfl rfl fun _ _ _=> ?_
 (repeat'((conv=>whnf);refine Aa hE Cw ?_));(all_goals(conv=>whnf))
 all_goals exact zE
def Zr (k:Int) (c:List UInt8):Gn×Bool:=match nmR c with
 |(some n,_,_)=>(⟨k,[],[],[],n,0,[],0,[]⟩,true)
 |(none,_,_)=>(⟨k,[],[],[],[],0,[],0,[]⟩,false)
theorem sJ (k:Int) (c:List UInt8) (hl:c.length≤800000):Ac Tryz.prog 136 [ptA k c] (fun r=>r=gbA (Zr k c)):=by
 have hE:=mN c hl
 have ho:=BT c
 unfold Zr
 generalize nmR c=q at hE ho⊢
 obtain⟨n,cd,of⟩:=q
 cases n with
 |none=>
  have h0:=(ho rfl).1
  simp only at h0
  have g0:((cd:Int)==0)=false:=by rw[beq_eq_false_iff_ne];omega
  have hE:Ac Tryz.prog 191 [.d (Af false c)] (fun r=>r= .tup [Bj,erA cd of]):=hE
  refine acQ 19 Tryz.func136 rfl rfl fun _ _ _=> ?_
  (repeat'((conv=>whnf);first|refine Aa hE Cw ?_|refine zF ?_));(all_goals(conv=>whnf))
  all_goals(refine Ba ?_;(repeat'(first|exact trivial|exact Cp _|refine And.intro ?_ ?_|exact rfl));(all_goals(conv=>whnf)))
  all_goals exact g0
 |some n=>
  have hE:Ac Tryz.prog 191 [.d (Af false c)] (fun r=>r= .tup [.d (Ue n),erA 0 0]):=hE
  refine acQ 19 Tryz.func136 rfl rfl fun _ _ _=> ?_
  (repeat'((conv=>whnf);first|refine Aa hE Cw ?_|refine zF ?_|exact zE))
theorem Md {c p:List UInt8} (h:p∈Eu c):p.length≤c.length:=by
 unfold Eu at h
 split at h
 ·cases h
 ·obtain⟨x,-,rfl⟩:=List.mem_map.1 h
  exact Wo c x
def inn (b:List UInt8) (n:Nat):List UInt8:=(Cy b n).getD []
theorem xF (b:List UInt8) (n:Nat) (hb:b.length≤1000000000):Ac Tryz.prog 188 [.d (Af false b),iv n] (fun r=>r=qR (Cy b n)):=lG b n hb
theorem Nq (b:List UInt8) (n:Nat):(inn b n).length≤b.length:=by
 unfold inn Cy
 split
 ·exact Nat.zero_le _
 ·show((b.drop _).take _).length≤_;rw[Al,Aw];omega
def dZ (k:Int) (p q:List UInt8):Gn×Bool:=if(Bb p).code≠0∨(Bb p).x.isB 0 6 false=false then(gz,false) else
 (⟨k,odT (p.drop (Bb p).x.body),[],inn q 0,[],0,[],0,[]⟩,(Cy q 0).isSome&&((odC (p.drop (Bb p).x.body):Int)==0))
def Zs (k:Int) (c:List UInt8):Gn×Bool:=match Eu c with
 |[p,q]=>dZ k p q
 |_=>(gz,false)
theorem sK (k:Int) (c:List UInt8) (hl:c.length≤800000):Ac Tryz.prog 133 [ptA k c] (fun r=>r=gbA (Zs k c)):=by
 have hS:=T0 c (by omega)
 have hm:=fun p=>Md (c:=c) (p:=p)
 unfold Zs
 generalize Eu c=l at hS hm⊢
 match l with
 |[]=>
  refine acQ 62 Tryz.func133 rfl rfl fun _ _ _=> ?_
  (repeat'((conv=>whnf);first|refine Ab ?_|refine Aa hS Cw ?_|exact zE))
 |[x]=>
  refine acQ 62 Tryz.func133 rfl rfl fun _ _ _=> ?_
  (repeat'((conv=>whnf);first|refine Ab ?_|refine Aa hS Cw ?_|exact zE))
 |x::y::z::r=>
  refine acQ 62 Tryz.func133 rfl rfl fun _ _ _=> ?_
  (repeat'((conv=>whnf);first|refine Ab ?_|refine Aa hS Cw ?_|exact zE))
 |[p,q]=>
  have hp:=hm p (by simp)
  have hq:=hm q (by simp)
  have g0:([p,q]:List (List UInt8))[0]?=some p:=rfl
  have g1:([p,q]:List (List UInt8))[1]?=some q:=rfl
  have hO:=Kz p (by omega)
  have hF:=D3 p
  have hI:=Vi (Bb p).x 0 6 false
  show Ac _ _ _ (fun r=>r=gbA (dZ k p q))
  unfold dZ
  by_cases h1:(Bb p).code≠0
  ·rw[if_pos (.inl h1)]
   generalize Bb p=r1 at hO h1
   have gc:((r1.code:Int) !=0)=true:=by rw[bne_iff_ne];omega
   refine acQ 62 Tryz.func133 rfl rfl fun _ _ _=> ?_
   (repeat'((conv=>whnf);first|refine Ab ?_|refine Ae ?_|refine Av asP ?_|refine Aa hS Cw ?_|refine NIdx.tab (fun _=>rfl) g0 ?_|refine Aa hO Cw ?_|exact zE))
  have h1':=Decidable.not_not.1 h1
  cases h2:(Bb p).x.isB 0 6 false
  ·rw[if_pos (.inr rfl)]
   rw[h2] at hI
   generalize Bb p=r1 at hO h1' hI
   obtain⟨x1,c1,o1⟩:=r1
   simp only at h1'
   subst h1'
   refine acQ 62 Tryz.func133 rfl rfl fun _ _ _=> ?_
   (repeat'((conv=>whnf);first|refine Ab ?_|refine Ae ?_|refine Aa hS Cw ?_|refine NIdx.tab (fun _=>rfl) g0 ?_|refine Aa hO Cw ?_|refine Aa hI rfl ?_|exact zE))
  ·rw[if_neg (by rintro(h|h);exact h1 h;cases h)]
   rw[h2] at hI
   have hb:=hF.1 h1'
   have hD:=L7 (p.drop (Bb p).x.body) (by rw[Aw];omega)
   have hN:=xF q 0 (by omega)
   have hil:=Nq q 0
   have hC:=K1 (inn q 0) (by omega)
   rw[V5] at hD
   unfold inn at hC⊢
   generalize Bb p=r1 at hO h1' hI hb hD⊢
   obtain⟨x1,c1,o1⟩:=r1
   simp only at h1' hb hI hD⊢
   subst h1'
   generalize odT (p.drop x1.body)=ot at hD⊢
   generalize odC (p.drop x1.body)=oc at hD⊢
   cases hin:Cy q 0 with
   |none=>
    rw[hin] at hN hC
    have hC:Ac Tryz.prog 189 [.d (Af false [])] (fun r=>r= .d (Af true [])):=hC
    have hN:Ac Tryz.prog 188 [.d (Af false q),iv 0] (fun r=>r= .tup [Bj,bv false]):=hN
    refine acQ 62 Tryz.func133 rfl rfl fun _ _ _=> ?_
    (repeat'((conv=>whnf);first|refine Ae ?_|refine Aa hS Cw ?_|refine NIdx.tab (fun _=>rfl) g0 ?_|refine NIdx.tab (fun _=>rfl) g1 ?_|refine Aa hO Cw ?_|refine Aa hI rfl ?_|refine Gh (x1.body) ?_|refine Aa hD Cw ?_|refine Aa hN Cw ?_|refine Bc hC Pm ?_|refine zF ?_|exact zE))
   |some v=>
    rw[hin] at hN hC
    have hC:Ac Tryz.prog 189 [.d (Af false v)] (fun r=>r= .d (Af true v)):=hC
    have hN:Ac Tryz.prog 188 [.d (Af false q),iv 0] (fun r=>r= .tup [.d (Af false v),bv true]):=hN
    refine acQ 62 Tryz.func133 rfl rfl fun _ _ _=> ?_
    (repeat'((conv=>whnf);first|refine Ab ?_|refine Ae ?_|refine Aa hS Cw ?_|refine NIdx.tab (fun _=>rfl) g0 ?_|refine NIdx.tab (fun _=>rfl) g1 ?_|refine Aa hO Cw ?_|refine Aa hI rfl ?_|refine Gh (x1.body) ?_|refine Aa hD Cw ?_|refine Aa hN Cw ?_|refine Aa hC Cw ?_|refine zF ?_|exact zE))
def pK (b:List UInt8):Int:=if Gp b=true then Pn b else 0
def pV (b:List UInt8):List UInt8:=if Gp b=true then Wi b else []
theorem Wq (b:List UInt8) (hb:b.length≤1000000):Ac Tryz.prog 192 [.d (Af false b)] (fun r=>r= .tup [txA (pK b) (pV b),bv (Gp b)]):=by
 have h:=Ta b hb
 unfold BS at h
 unfold pK pV
 cases hd:Gp b
 all_goals
  rw[hd] at h
  exact h
def Oo (k:Int) (q:List UInt8) (ak:Int) (av:List UInt8):Gn×Bool:=(⟨k,[],[],[],[],ak,av,pK (inn q 1),pV (inn q 1)⟩,(Cy q 1).isSome&&Gp (inn q 1))
def Pp (k:Int) (c:List UInt8):Gn×Bool:=match Eu c with
 |[p,q]=>if(Cy p 0).isSome&&Gp (inn p 0) then Oo k q (pK (inn p 0)) (pV (inn p 0)) else(gz,false)
 |[q]=>Oo k q 0 []
 |_=>(gz,false)
theorem I1 {b v:List UInt8} {n:Nat} (h:Cy b n=some v):inn b n=v:=by unfold inn;rw[h];rfl
theorem Sc {b:List UInt8} {n:Nat} (h:Cy b n=none):inn b n=[]:=by unfold inn;rw[h];rfl
theorem Bu {p:Prop} (h:p:=by first|rfl|(simp only[AV.gives,AV.ren,AV.give,D.un,D.uns,Ai,Am,List.nil_append,List.append_nil,List.cons_append,At,A5,Cm,Bm,A4,Cf,Ck,Cn,Bp];first|done|rfl)):p:=h
theorem sL (k:Int) (c:List UInt8) (hl:c.length≤800000):Ac Tryz.prog 137 [ptA k c] (fun r=>r=gbA (Pp k c)):=by
 have hS:=T0 c (by omega)
 have hm:=fun p=>Md (c:=c) (p:=p)
 unfold Pp
 generalize Eu c=l at hS hm⊢
 match l with
 |[]=>
  refine acQ 69 Tryz.func137 rfl rfl fun _ _ _=> ?_
  (repeat'((conv=>whnf);first|refine Ab ?_|refine Ae ?_|refine Aa hS Bu ?_|exact zE))
 |x::y::z::r=>
  refine acQ 69 Tryz.func137 rfl rfl fun _ _ _=> ?_
  (repeat'((conv=>whnf);first|refine Ab ?_|refine Ae ?_|refine Aa hS Bu ?_|exact zE))
 |[q]=>
  have hq:=hm q (by simp)
  have g0:([q]:List (List UInt8))[0]?=some q:=rfl
  have hN:=xF q 1 (by omega)
  have hil:=Nq q 1
  have hD:=Wq (inn q 1) (by omega)
  show Ac _ _ _ (fun r=>r=gbA (Oo k q 0 []))
  unfold Oo
  cases hin:Cy q 1 with
  |none=>
   rw[hin] at hN
   rw[Sc hin] at hD⊢
   have hN:Ac Tryz.prog 188 [.d (Af false q),iv 1] (fun r=>r= .tup [Bj,bv false]):=hN
   generalize pK []=K at hD⊢
   generalize pV []=V at hD⊢
   generalize Gp []=O at hD⊢
   refine acQ 69 Tryz.func137 rfl rfl fun _ _ _=> ?_
   (repeat'((conv=>whnf);first|refine Ae ?_|refine Aa hS Bu ?_|refine NIdx.tab (fun _=>rfl) g0 ?_|refine Aa hN Bu ?_|refine Bc hD Pm ?_|exact zE))
  |some v=>
   rw[hin] at hN
   rw[I1 hin] at hD⊢
   have hN:Ac Tryz.prog 188 [.d (Af false q),iv 1] (fun r=>r= .tup [.d (Af false v),bv true]):=hN
   generalize pK v=K at hD⊢
   generalize pV v=V at hD⊢
   generalize Gp v=O at hD⊢
   refine acQ 69 Tryz.func137 rfl rfl fun _ _ _=> ?_
   (repeat'((conv=>whnf);first|refine Ab ?_|refine Ae ?_|refine Aa hS Bu ?_|refine NIdx.tab (fun _=>rfl) g0 ?_|refine Aa hN Bu ?_|refine Aa hD Bu ?_|exact zE))
 |[p,q]=>
  have hp:=hm p (by simp)
  have hq:=hm q (by simp)
  have g0:([p,q]:List (List UInt8))[0]?=some p:=rfl
  have g1:([q]:List (List UInt8))[0]?=some q:=rfl
  have hN0:=xF p 0 (by omega)
  have hil0:=Nq p 0
  have hD0:=Wq (inn p 0) (by omega)
  have hN:=xF q 1 (by omega)
  have hil:=Nq q 1
  have hD:=Wq (inn q 1) (by omega)
  show Ac _ _ _ (fun r=>r=gbA (if(Cy p 0).isSome&&Gp (inn p 0) then Oo k q (pK (inn p 0)) (pV (inn p 0)) else(gz,false)))
  cases hin0:Cy p 0 with
  |none=>
   rw[hin0] at hN0
   rw[Sc hin0] at hD0
   have hN0:Ac Tryz.prog 188 [.d (Af false p),iv 0] (fun r=>r= .tup [Bj,bv false]):=hN0
   rw[if_neg (by simp)]
   generalize pK []=K at hD0
   generalize pV []=V at hD0
   generalize Gp []=O at hD0
   refine acQ 69 Tryz.func137 rfl rfl fun _ _ _=> ?_
   (repeat'((conv=>whnf);first|refine Ab ?_|refine Aa hS Bu ?_|refine NIdx.tab (fun _=>rfl) g0 ?_|refine Aa hN0 Bu ?_|refine Bc hD0 Pm ?_|exact zE))
  |some v=>
   rw[hin0] at hN0
   rw[I1 hin0] at hD0⊢
   have hN0:Ac Tryz.prog 188 [.d (Af false p),iv 0] (fun r=>r= .tup [.d (Af false v),bv true]):=hN0
   cases hd0:Gp v
   ·rw[hd0] at hD0
    rw[if_neg (by simp)]
    refine acQ 69 Tryz.func137 rfl rfl fun _ _ _=> ?_
    (repeat'((conv=>whnf);first|refine Ab ?_|refine Ae ?_|refine Aa hS Bu ?_|refine NIdx.tab (fun _=>rfl) g0 ?_|refine Aa hN0 Bu ?_|refine Aa hD0 Bu ?_|exact zE))
   rw[hd0] at hD0
   rw[if_pos (by rfl)]
   generalize pK v=K0 at hD0⊢
   generalize pV v=V0 at hD0⊢
   unfold Oo
   cases hin:Cy q 1 with
   |none=>
    rw[hin] at hN
    rw[Sc hin] at hD⊢
    have hN:Ac Tryz.prog 188 [.d (Af false q),iv 1] (fun r=>r= .tup [Bj,bv false]):=hN
    generalize pK []=K at hD⊢
    generalize pV []=V at hD⊢
    generalize Gp []=O at hD⊢
    refine acQ 69 Tryz.func137 rfl rfl fun _ _ _=> ?_
    (repeat'((conv=>whnf);first|refine Ab ?_|refine Ae ?_|refine Aa hS Bu ?_|refine NIdx.tab (fun _=>rfl) g0 ?_|refine Aa hN0 Bu ?_|refine Aa hD0 Bu ?_|refine NSl.tab (fun _=>rfl) 1 2 [q] rfl ?_|refine NIdx.tab (fun _=>rfl) g1 ?_|refine Aa hN Bu ?_|refine Bc hD Pm ?_|refine zF ?_|exact zE))
   |some v=>
    rw[hin] at hN
    rw[I1 hin] at hD⊢
    have hN:Ac Tryz.prog 188 [.d (Af false q),iv 1] (fun r=>r= .tup [.d (Af false v),bv true]):=hN
    generalize pK v=K at hD⊢
    generalize pV v=V at hD⊢
    generalize Gp v=O at hD⊢
    refine acQ 69 Tryz.func137 rfl rfl fun _ _ _=> ?_
    (repeat'((conv=>whnf);first|refine Ab ?_|refine Ae ?_|refine Aa hS Bu ?_|refine NIdx.tab (fun _=>rfl) g0 ?_|refine Aa hN0 Bu ?_|refine Aa hD0 Bu ?_|refine NSl.tab (fun _=>rfl) 1 2 [q] rfl ?_|refine NIdx.tab (fun _=>rfl) g1 ?_|refine Aa hN Bu ?_|refine Aa hD Bu ?_|refine zF ?_|exact zE))
theorem Ug (b:List UInt8) (hb:b.length≤1000000000):Ac Tryz.prog 97 [.d (Af false b)] (fun r=>r=bv (Ek b)):=by
 rw[P7]
 rcases R8 b hb with⟨h1,ta,tq,tm,tk,tl,tcs,hT⟩|⟨h1,hT⟩
 ·rw[h1]
  refine acQ 13 Tryz.func97 rfl rfl fun _ _ _=> ?_
  (repeat'((conv=>whnf);refine Aa hT Bu ?_));(all_goals(conv=>whnf))
  all_goals exact zE
 ·generalize Kk b=tO at hT
  generalize Iz b=tc at hT h1⊢
  have g1:((tc:Int)==0)=(tc==0):=Gi tc 0
  refine acQ 13 Tryz.func97 rfl rfl fun _ _ _=> ?_
  (repeat'((conv=>whnf);refine Aa hT Bu ?_));(all_goals(conv=>whnf))
  all_goals(refine Ba ?_;(repeat'(first|refine And.intro ?_ ?_|exact rfl));(all_goals(conv=>whnf)))
  all_goals exact g1
theorem Hv (n:Nat) (b:List UInt8) (hn:n≤30) (hb:b.length≤900000000):Ac Tryz.prog 98 [iv n,.d (Af false b)] (fun r=>r= .tup [Cg 0 5 (Ao 2 n true b),iv 0]):=by
 have hW:=Dk 2 n true b (by omega) hn hb
 refine acQ 12 Tryz.func98 rfl rfl fun _ _ _=> ?_
 (repeat'((conv=>whnf);refine Aa hW Bu ?_));(all_goals(conv=>whnf))
 all_goals exact zE
theorem gU (k:Int):(k=0∨k=1∨k=2∨k=3∨k=4∨k=5∨k=6∨k=7∨k=8)∨((k==0)=false∧(k==1)=false∧(k==2)=false∧(k==3)=false∧(k==4)=false∧(k==5)=false∧(k==6)=false∧(k==7)=false∧(k==8)=false):=by
 simp only[beq_eq_false_iff_ne];omega
def Dt (k:Int):Bool:=k==0||(k==3||(k==4||k==5))
theorem Zt (k:Int):Ac Tryz.prog 67 [iv k] (fun r=>r=bv (Dt k)):=by
 rcases gU k with(h|h|h|h|h|h|h|h|h)|⟨h0,h1,h2,h3,h4,h5,h6,h7,h8⟩
 case inr=>
  rw[show Dt k=false by unfold Dt;rw[h0,h3,h4,h5];rfl]
  refine acQ 9 Tryz.func67 rfl rfl fun _ _ _=> ?_
  (repeat'((conv=>whnf);refine Ay asP ?_));(all_goals(conv=>whnf))
  all_goals exact zE
 all_goals
  subst h
  refine acQ 9 Tryz.func67 rfl rfl fun _ _ _=> ?_
  (repeat'((conv=>whnf);first|refine Ab ?_|refine Ae ?_|exact zE))
def ip (n:Nat):Bool:=n==4||(n==8||(n==16||n==32))
def Pq (g:Gn):Bool:=if g.k=0 then Ek g.by' else if g.k=3 then Ek (Ao 2 3 true g.by') else if g.k=7 then ip g.by'.length else true
theorem Uh (g:Gn) (hb:g.by'.length≤100000000):Ac Tryz.prog 65 [gnA g] (fun r=>r=bv (Pq g)):=by
 obtain⟨k,oid,tx,by',nm,ak,av,pk,pv⟩:=g
 simp only at hb
 have hO:=Ug by' (by omega)
 have hX:=Hv 3 by' (by omega) (by omega)
 have hle:=A2 2 3 true by' (by omega)
 have hO3:=Ug (Ao 2 3 true by') (by omega)
 unfold Pq
 simp only
 rcases gU k with(h|h|h|h|h|h|h|h|h)|⟨h0,h1,h2,h3,h4,h5,h6,h7,h8⟩
 case inr=>
  rw[if_neg (by simpa using h0),if_neg (by simpa using h3),if_neg (by simpa using h7)]
  refine acQ 48 Tryz.func65 rfl rfl fun _ _ _=> ?_
  (repeat'((conv=>whnf);refine Ay asP ?_));(all_goals(conv=>whnf))
  all_goals exact zE
 case inl.inr.inr.inr.inr.inr.inr.inr.inl=>
  subst h
  rw[if_neg (by decide),if_neg (by decide),if_pos rfl]
  unfold ip
  have b1:=Gi by'.length 4
  have b2:=Gi by'.length 8
  have b3:=Gi by'.length 16
  have b4:=Gi by'.length 32
  generalize (by'.length==4)=c1 at b1⊢
  generalize (by'.length==8)=c2 at b2⊢
  generalize (by'.length==16)=c3 at b3⊢
  generalize (by'.length==32)=c4 at b4⊢
  cases c1<;>cases c2<;>cases c3<;>cases c4
  all_goals
   refine acQ 48 Tryz.func65 rfl rfl fun _ _ _=> ?_
   (repeat'((conv=>whnf);first|refine Ab ?_|refine Ae ?_|refine Av asP ?_|refine Ay asP ?_));(all_goals(conv=>whnf))
   all_goals(refine Ba ?_;(repeat'(first|exact Cp _|refine And.intro ?_ ?_|exact rfl));(all_goals(conv=>whnf)))
   all_goals exact b4
 case inl.inl=>
  subst h
  rw[if_pos rfl]
  refine acQ 48 Tryz.func65 rfl rfl fun _ _ _=> ?_
  (repeat'((conv=>whnf);first|refine Ab ?_|refine Aa hO Bu ?_|exact zE))
 case inl.inr.inr.inr.inl=>
  subst h
  rw[if_neg (by decide),if_pos rfl]
  refine acQ 48 Tryz.func65 rfl rfl fun _ _ _=> ?_
  (repeat'((conv=>whnf);first|refine Ab ?_|refine Ae ?_|refine Aa hX Bu ?_|refine Aa hO3 Bu ?_|exact zE))
 all_goals
  subst h
  rw[if_neg (by decide),if_neg (by decide),if_neg (by decide)]
  refine acQ 48 Tryz.func65 rfl rfl fun _ _ _=> ?_
  (repeat'((conv=>whnf);refine Ae ?_));(all_goals(conv=>whnf))
  all_goals exact zE
def zT (k:Int) (l:List UInt8):Bool:=k==0&&l==[]
def alB (a b c d e:Bool) (g:Gn):Bool:=(a||g.oid==[])&&((b||g.tx==[])&&((c||(g.by'.length:Int)==0)&&((d||(g.nm.length:Int)==0)&&(e||(zT g.ak g.av&&zT g.pk g.pv)))))
def Cl (g:Gn):Bool:=alB (g.k==0||g.k==8) (g.k==1||(g.k==2||g.k==6)) (g.k==0||(g.k==3||g.k==7)) (g.k==4) (g.k==5) g
theorem mO (g:Gn):Ac Tryz.prog 64 [gnA g] (fun r=>r=bv (Cl g)):=by
 obtain⟨k,oid,tx,by',nm,ak,av,pk,pv⟩:=g
 unfold Cl alB zT
 simp only
 rcases gU k with(h|h|h|h|h|h|h|h|h)|⟨h0,h1,h2,h3,h4,h5,h6,h7,h8⟩
 case inr=>
  rw[h0,h1,h2,h3,h4,h5,h6,h7,h8]
  refine acQ 86 Tryz.func64 rfl rfl fun _ _ _=> ?_
  (repeat'((conv=>whnf);first|refine Ab ?_|refine Ae ?_|refine Ay asP ?_|refine A9 (Dj rfl rfl (ltN rfl) rfl rfl) ?_|(refine Ah (fun hc hcP=> ?_) (fun hc hcP=> ?_)<;>try(exfalso;omega))|refine NBr.mk (fun hc=> ?_) (fun hc=> ?_)));(all_goals(conv=>whnf))
  all_goals(refine Ba ?_;(repeat'(first|refine And.intro ?_ ?_|exact rfl));(all_goals(conv=>whnf)))
  all_goals(simp_all)
 all_goals
  subst h
  refine acQ 86 Tryz.func64 rfl rfl fun _ _ _=> ?_
  (repeat'((conv=>whnf);first|refine Ab ?_|refine Ae ?_|refine A9 (Dj rfl rfl (ltN rfl) rfl rfl) ?_|(refine Ah (fun hc hcP=> ?_) (fun hc hcP=> ?_)<;>try(exfalso;omega))|refine NBr.mk (fun hc=> ?_) (fun hc=> ?_)));(all_goals(conv=>whnf))
  all_goals(refine Ba ?_;(repeat'(first|refine And.intro ?_ ?_|exact rfl));(all_goals(conv=>whnf)))
  all_goals(simp_all)
def EI (a b:List UInt8):Nat→List UInt8
 |0=>[]
 |1=>a
 |_+2=>a++b
def Zu (g:Gn):Option (List UInt8):=
 if(zT g.ak g.av||An g.ak g.av)&&An g.pk g.pv then some ((if zT g.ak g.av then [] else Ao 2 0 true (txE g.ak g.av))++Ao 2 1 true (txE g.pk g.pv)) else none
def Gq (g:Gn):Option (List UInt8):=
 if g.k=0 then(if E0 g.oid then some (Ao 0 6 false (Cd g.oid)++Ao 2 0 true g.by') else none)
 else if g.k=1∨g.k=2∨g.k=6 then(if An 22 g.tx then some (chS 22 g.tx) else none)
 else if g.k=3∨g.k=7 then some g.by'
 else if g.k=4 then(if nmV g.nm then some (nmE g.nm) else none)
 else if g.k=5 then Zu g
 else if g.k=8 then(if E0 g.oid then some (Cd g.oid) else none)
 else none
def EX:Option (List UInt8)→AV
 |some c=> .tup [.d (Af false c),iv 0]
 |none=> .tup [.d (Af false []),iv 8]
structure Gn.sm (g:Gn):Prop where
 o:g.oid.length≤3000000
 t:g.tx.length≤3000000
 b:g.by'.length≤3000000
 n:nmZ g.nm
 a:g.av.length≤3000000
 p:g.pv.length≤3000000
theorem Hw {k:Int} {l:List UInt8} (h:An k l=true) (hl:l.length≤3000000):(txE k l).length≤4*l.length+6:=by
 have h4:=Ld h
 have:=A2 0 k.toNat false (chS k l) (by omega)
 unfold txE;omega
theorem zL {k:Int} {l:List UInt8} (hl:l.length≤3000000) (h:An k l=true):Ac Tryz.prog 101 [txA k l] (fun r=>r= .tup [Cg 0 5 (txE k l),iv 0]):=by
 have:=Kl k l (by omega)
 rwa[frS,if_pos h] at this
theorem zM {k:Int} {l:List UInt8} (hl:l.length≤3000000) (h:An k l=false):Ac Tryz.prog 101 [txA k l] (fun r=>r= .tup [Bj,iv 8]):=by
 have:=Kl k l (by omega)
 rwa[frS,if_neg (by rw[h];simp)] at this
theorem P8 {s:List UInt8} (h:E0 s=false):Yy s=8∧Cd s=[]:=by
 unfold E0 at h;unfold Yy Cd
 cases ha:D9 s with
 |none=>exact⟨rfl,rfl⟩
 |some a=>rw[ha] at h;cases h
theorem Jf {p:Prop} (h:p:=by first|rfl|(simp only[AV.gives,AV.ren,AV.give,D.un,D.uns,Ai,Am,List.nil_append,List.append_nil,List.cons_append,At,A5,Cm,Bm,A4,Cf,Ck,Cn,Bp];first|done|rfl)):p:=h
theorem Wr (g:Gn) (hs:g.sm):Ac Tryz.prog 66 [gnA g] (fun r=>r=EX (Gq g)):=by
 obtain⟨k,oid,tx,by',nm,ak,av,pk,pv⟩:=g
 obtain⟨s1,s2,s3,s4,s5,s6⟩:=hs
 simp only at s1 s2 s3 s4 s5 s6
 have k1:=Gm oid
 have hE:=Rz oid (by omega)
 have hW:=Dk 0 6 false (Cd oid) (by omega) (by omega) (by omega)
 have hX:=Hv 0 by' (by omega) (by omega)
 have hle:=A2 2 0 true by' (by omega)
 have hlo:=A2 0 6 false (Cd oid) (by omega)
 have hCo:=L3 [Ao 0 6 false (Cd oid),Ao 2 0 true by'] (by simp;omega) (by simp)
 rw[show [Ao 0 6 false (Cd oid),Ao 2 0 true by'].flatten=Ao 0 6 false (Cd oid)++Ao 2 0 true by' by simp] at hCo
 have hT:Ac Tryz.prog 99 [.agg [iv 22,.d (.v (.string ⟨⟨tx⟩⟩))]] (fun r=>r= .tup [.d (Af true (J0 22 tx)),iv (Uu 22 tx)]):=M8 22 tx (by omega)
 have hN:=mM nm s4
 unfold Gq
 simp only
 rcases gU k with(h|h|h|h|h|h|h|h|h)|⟨h0,h1,h2,h3,h4,h5,h6,h7,h8⟩
 case inr=>
  have e:¬k=0∧¬(k=1∨k=2∨k=6)∧¬(k=3∨k=7)∧¬k=4∧¬k=5∧¬k=8:=by
   simp only[beq_eq_false_iff_ne] at h0 h1 h2 h3 h4 h5 h6 h7 h8;omega
  rw[if_neg e.1,if_neg e.2.1,if_neg e.2.2.1,if_neg e.2.2.2.1,if_neg e.2.2.2.2.1,if_neg e.2.2.2.2.2]
  show Ac _ _ _ (fun r=>r= .tup [.d (Af false []),iv 8])
  refine acQ 118 Tryz.func66 rfl rfl fun _ _ _=> ?_
  (repeat'((conv=>whnf);refine Ay asP ?_));(all_goals(conv=>whnf))
  all_goals exact zE
 case inl.inl=>
  subst h
  rw[if_pos rfl]
  cases ho:E0 oid
  ·rw[(P8 ho).1,(P8 ho).2] at hE
   show Ac _ _ _ (fun r=>r= .tup [.d (Af false []),iv 8])
   refine acQ 118 Tryz.func66 rfl rfl fun _ _ _=> ?_
   (repeat'((conv=>whnf);first|refine Ab ?_|refine Aa hE rfl ?_|exact zE))
  ·rw[(Oi oid).1 ho] at hE
   show Ac _ _ _ (fun r=>r= .tup [.d (Af false (Ao 0 6 false (Cd oid)++Ao 2 0 true by')),iv 0])
   refine acQ 118 Tryz.func66 rfl rfl fun _ _ _=> ?_
   (repeat'((conv=>whnf);first|refine Ab ?_|refine Ae ?_|refine Aa hE rfl ?_|refine Aa hW Jf ?_|refine Aa hX Jf ?_|refine Aa hCo Jf ?_|exact zE))
 case inl.inr.inr.inr.inr.inl=>
  subst h
  rw[if_neg (by decide),if_neg (by decide),if_neg (by decide),if_pos rfl]
  cases ho:nmV nm
  ·rw[if_neg (by rw[ho];simp)] at hN
   show Ac _ _ _ (fun r=>r= .tup [.d (Af false []),iv 8])
   refine acQ 118 Tryz.func66 rfl rfl fun _ _ _=> ?_
   (repeat'((conv=>whnf);first|refine Ab ?_|refine Ae ?_|refine Aa hN Jf ?_|exact zE))
  ·rw[if_pos ho] at hN
   show Ac _ _ _ (fun r=>r= .tup [.d (Af false (nmE nm)),iv 0])
   refine acQ 118 Tryz.func66 rfl rfl fun _ _ _=> ?_
   (repeat'((conv=>whnf);first|refine Ab ?_|refine Ae ?_|refine Aa hN Jf ?_|exact zE))
 case inl.inr.inr.inr.inr.inr.inl=>
  subst h
  rw[if_neg (by decide),if_neg (by decide),if_neg (by decide),if_neg (by decide),if_pos rfl]
  unfold Zu
  simp only
  generalize hz:zT ak av=z
  have gz':(ak==0&&av==[])=z:=hz
  generalize hpre:(if z=true then [] else Ao 2 0 true (txE ak av))=pre
  have hprel:(z||An ak av)=true→pre.length≤13000000:=fun h=>by
   cases z
   ·rw[Bool.false_or] at h
    have h1:=Hw h s5
    have h2:=A2 2 0 true (txE ak av) (by omega)
    rw[←hpre,if_neg (by simp)];omega
   ·rw[←hpre,if_pos rfl];simp
  refine acQ 118 Tryz.func66 rfl rfl fun _ _ _=> ?_
  (repeat'((conv=>whnf);first|refine Ab ?_|refine Ae ?_));(all_goals(conv=>whnf))
  refine Bt [.s 8 1 5] (fun i:Nat=>i≤2∧(1≤i→(z||An ak av)=true)∧(2≤i→An pk pv=true)) (fun i=>2-i) (fun i=>⟨[(1,.ptr 1 0),(8,Cg 8 5 (EI pre (Ao 2 1 true (txE pk pv)) i)),(15,iv 5),(75,.d (.sl false 2 2 [iD ak,sD av,iD pk,sD pv])),(76,iv 2),(77,iv i)],[(1,[iv 5,.d (sD oid),.d (sD tx),.d (Af false by'),.d (Ff nm),iv ak,.d (sD av),iv pk,.d (sD pv)])],[(8,((EI pre (Ao 2 1 true (txE pk pv)) i).length,1,5))]⟩) 0 ⟨by omega,by omega,by omega⟩ leQ ?_
  rintro i ⟨hi,hA,hP⟩
  match i,hi with
  |0,_=>
   cases z
   ·cases ha:An ak av
    ·have hF:=zM s5 ha
     rw[show((false||false)&&An pk pv)=false by rfl,if_neg (by simp)]
     (repeat'((conv=>whnf);first|refine Ab ?_|refine Ay asP ?_|refine Mz 0 ?_|refine A9 (Dj rfl rfl (ltN rfl) rfl rfl) ?_|refine Aa hF rfl ?_|exact zE))
    ·have hF:=zL s5 ha
     have h1:=Hw ha s5
     have hX:=Hv 0 (txE ak av) (by omega) (by omega)
     have h2:=A2 2 0 true (txE ak av) (by omega)
     rw[if_neg (by simp)] at hpre
     rw[←hpre]
     (repeat'((conv=>whnf);first|refine Ab ?_|refine Ae ?_|refine Ay asP ?_|refine Mz 0 ?_|refine A9 (Dj rfl rfl (ltN rfl) rfl rfl) ?_|refine Aa hF rfl ?_|refine Aa hX Jf ?_|(refine NApp.bytes ?_ (by show([]:List UInt8).length+_≤_;simp only[List.length_nil];omega))|(with_reducible refine NInt.i64 ?_)));(all_goals(conv=>whnf))
     refine⟨1,⟨by omega,fun _=>rfl,by omega⟩,by omega,?_⟩
     exact leQ
   ·rw[if_pos rfl] at hpre
    rw[←hpre]
    (repeat'((conv=>whnf);first|refine Ab ?_|refine Av asP ?_|refine Mz 0 ?_|refine A9 (Dj rfl rfl (ltN rfl) rfl rfl) ?_|(with_reducible refine NInt.i64 ?_)));(all_goals(conv=>whnf))
    refine⟨1,⟨by omega,fun _=>rfl,by omega⟩,by omega,?_⟩
    exact leQ
  |1,_=>
   have hA:=hA (by omega)
   have hpl:=hprel hA
   cases hp:An pk pv
   ·have hF:=zM s6 hp
    rw[Bool.and_false,if_neg (by simp)]
    (repeat'((conv=>whnf);first|refine Ab ?_|refine Ae ?_|refine Mz 1 ?_|refine Aa hF rfl ?_|exact zE))
   ·have hF:=zL s6 hp
    have h1:=Hw hp s6
    have hX:=Hv 1 (txE pk pv) (by omega) (by omega)
    have h2:=A2 2 1 true (txE pk pv) (by omega)
    (repeat'((conv=>whnf);first|refine Ab ?_|refine Ae ?_|refine Mz 1 ?_|refine Aa hF rfl ?_|refine Aa hX Jf ?_|(refine NApp.bytes ?_ (by show pre.length+_≤_;omega))|(with_reducible refine NInt.i64 ?_)));(all_goals(conv=>whnf))
    refine⟨2,⟨by omega,fun _=>hA,fun _=>rfl⟩,by omega,?_⟩
    exact leQ
  |2,_=>
   rw[hA (by omega),hP (by omega)]
   (repeat'((conv=>whnf);refine Ae ?_));(all_goals(conv=>whnf))
   all_goals exact zE
 case inl.inr.inr.inr.inr.inr.inr.inr.inr=>
  subst h
  rw[if_neg (by decide),if_neg (by decide),if_neg (by decide),if_neg (by decide),if_neg (by decide),if_pos rfl]
  cases ho:E0 oid
  ·rw[(P8 ho).1,(P8 ho).2] at hE
   show Ac _ _ _ (fun r=>r= .tup [.d (Af false []),iv 8])
   refine acQ 118 Tryz.func66 rfl rfl fun _ _ _=> ?_
   (repeat'((conv=>whnf);first|refine Ab ?_|refine Ae ?_|refine Aa hE rfl ?_|exact zE))
  ·rw[(Oi oid).1 ho] at hE
   show Ac _ _ _ (fun r=>r= .tup [.d (Af false (Cd oid)),iv 0])
   refine acQ 118 Tryz.func66 rfl rfl fun _ _ _=> ?_
   (repeat'((conv=>whnf);first|refine Ab ?_|refine Ae ?_|refine Aa hE rfl ?_|exact zE))
 case inl.inr.inr.inr.inl=>
  subst h
  rw[if_neg (by decide),if_neg (by decide),if_pos (by decide)]
  show Ac _ _ _ (fun r=>r= .tup [.d (Af false by'),iv 0])
  refine acQ 118 Tryz.func66 rfl rfl fun _ _ _=> ?_
  (repeat'((conv=>whnf);first|refine Ab ?_|refine Ae ?_|exact zE))
 case inl.inr.inr.inr.inr.inr.inr.inr.inl=>
  subst h
  rw[if_neg (by decide),if_neg (by decide),if_pos (by decide)]
  show Ac _ _ _ (fun r=>r= .tup [.d (Af false by'),iv 0])
  refine acQ 118 Tryz.func66 rfl rfl fun _ _ _=> ?_
  (repeat'((conv=>whnf);first|refine Ab ?_|refine Ae ?_|exact zE))
 all_goals
  subst h
  rw[if_neg (by decide),if_pos (by decide)]
  unfold J0 Uu at hT
  cases hv:An 22 tx
  ·rw[hv] at hT
   show Ac _ _ _ (fun r=>r= .tup [.d (Af false []),iv 8])
   refine acQ 118 Tryz.func66 rfl rfl fun _ _ _=> ?_
   (repeat'((conv=>whnf);first|refine Ab ?_|refine Ae ?_|refine Aa hT rfl ?_|exact zE))
  ·rw[hv] at hT
   show Ac _ _ _ (fun r=>r= .tup [.d (Af false (chS 22 tx)),iv 0])
   refine acQ 118 Tryz.func66 rfl rfl fun _ _ _=> ?_
   (repeat'((conv=>whnf);first|refine Ab ?_|refine Ae ?_|refine Aa hT rfl ?_|exact zE))
end Go.Proofs.YtaoahmplnckhpaaGreatDoor
