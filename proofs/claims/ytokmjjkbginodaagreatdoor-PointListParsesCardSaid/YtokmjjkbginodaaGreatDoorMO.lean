/- MO: the texts Att Att2 Dn Dn2 GenP GenQ GenC, one behind the other. No condition but what each lemma says. -/
import Derived.Test.YtokmjjkbginodaaGreatDoorMM
set_option maxRecDepth 100000
set_option maxHeartbeats 16000000
namespace Go.Proofs.YtokmjjkbginodaaGreatDoor
open Go.RowKit
def La (b:List UInt8):Nat:=(Ez b).code
def M6 (b:List UInt8):Nat:=(Ez b).off
theorem fV (b:List UInt8):M6 b≤b.length:=by
 have hF:=Gv b 16 b.length (by omega) 0 (by omega)
 dsimp only at hF
 unfold M6 Ez
 generalize B4 b 16 0 b.length=r at hF
 by_cases h:r.code=0
 ·obtain⟨s,rfl,h1,h2⟩:=hF.1 h
  by_cases h3:s.stop<b.length
  ·rw[H7 h3];exact h2
  ·rw[K8 h3];exact Nat.zero_le _
 ·obtain⟨h1,h2⟩:=hF.2 h
  obtain⟨l,c,o⟩:=r
  have hl:l=[]:=h2
  subst hl
  rw[Jb];exact h1
theorem We (b:List UInt8) (hb:b.length≤1000000000):(La b=0∧∃(a q m:Nat) (k:Bool) (l:List UInt8) (cs:List D),Ab Tryz.prog 139 [.d (Af false b)] (fun r=>r= .tup [.agg [iv a,iv q,bv k,.d (Af true l),.d (.sl true m 5 cs)],erA 0 0]))∨
 (La b≠0∧Ab Tryz.prog 139 [.d (Af false b)] (fun r=>r= .tup [.agg [iv 0,iv 0,bv false,A4,A4],erA (La b) (M6 b)])):=by
 have hP:=tX b hb
 unfold La M6
 rcases uA b with⟨s,h⟩|⟨c,o,hc0,h⟩
 ·rw[h] at hP⊢
  obtain⟨a,q,c,n,k,b',ks⟩:=s
  exact .inl ⟨rfl,c,n,ks.length,k,b',Kg true ks,hP⟩
 ·rw[h] at hP⊢
  refine .inr ⟨hc0,?_⟩
  cases c with
  |zero=>exact absurd rfl hc0
  |succ c=>exact hP
def Wg (b:List UInt8):List UInt8:=(b.drop (Bj b).x.body).take ((Bj b).x.stop-(Bj b).x.body)
def S2 (b:List UInt8):Bool:=(Bj b).code==0&&((Bj b).x.c==0&& !(Bj b).x.k)
def Of (b:List UInt8):Int:=if S2 b then Fl (Bj b).x.n (Wg b) else 0
def R3 (b:List UInt8):List UInt8:=if S2 b then Cu (Bj b).x.n (Wg b) else []
def bD (b:List UInt8):Bool:=S2 b&&D7 (Bj b).x.n (Wg b)==0
theorem AI (b:List UInt8):(Wg b).length≤b.length:=by
 unfold Wg;rw[Al,Az];omega
theorem Lr {p:Prop} (h:p:=by first|rfl|(simp only[AV.gives,AV.ren,AV.give,D.un,D.uns,An,Ao,List.nil_append,List.append_nil,List.cons_append,Av,Ee,Ef,Bn,Bd,Ck];first|done|rfl)):p:=h
theorem bE (b:List UInt8) (hb:b.length≤1000000):Ab Tryz.prog 221 [.d (Af false b)] (fun r=>r= .tup [txA (Of b) (R3 b),bv (bD b)]):=by
 have hO:=Lp b (by omega)
 have hF:=D9 b
 have hD:=Qi (Bj b).x.n (Wg b) (by have:=AI b;omega)
 unfold Of R3 bD
 have gs:S2 b=((Bj b).code==0&&((Bj b).x.c==0&& !(Bj b).x.k)):=rfl
 unfold Wg at hD⊢
 generalize S2 b=q at gs⊢
 generalize Bj b=r at hO hF hD gs⊢
 obtain⟨⟨c,n,k,p,body,stop⟩,cd,of⟩:=r
 simp only at hF hD gs⊢
 by_cases h1:cd=0
 case neg=>
  have g1:((cd:Int) !=0)=true:=by rw[bne_iff_ne];omega
  have gq:q=false:=by rw[gs,show(cd==0)=false by rw[beq_eq_false_iff_ne];exact h1];rfl
  subst gq
  refine acQ 41 Tryz.func221 rfl rfl fun _ _ _=> ?_
  (repeat'((conv=>whnf);first|refine Ac ?_|refine Ay asP ?_|refine Aa hO Lr ?_|exact zE))
 subst h1
 by_cases h2:c=0
 case neg=>
  have g1:((c:Int) !=0)=true:=by rw[bne_iff_ne];omega
  have gq:q=false:=by rw[gs,show(c==0)=false by rw[beq_eq_false_iff_ne];exact h2];rfl
  subst gq
  refine acQ 41 Tryz.func221 rfl rfl fun _ _ _=> ?_
  (repeat'((conv=>whnf);first|refine Ac ?_|refine Ae ?_|refine Ay asP ?_|refine Aa hO Lr ?_|exact zE))
 subst h2
 cases k
 ·have gq:q=true:=gs
  subst gq
  generalize Fl n ((b.drop body).take (stop-body))=K at hD⊢
  generalize Cu n ((b.drop body).take (stop-body))=V at hD⊢
  generalize D7 n ((b.drop body).take (stop-body))=Z at hD⊢
  refine acQ 41 Tryz.func221 rfl rfl fun _ _ _=> ?_
  (repeat'((conv=>whnf);first|refine Ae ?_|refine Aa hO Lr ?_|refine NSl.slice (body) (stop) ?_|refine Aa hD Lr ?_|refine zF ?_|exact zE))
 ·have gq:q=false:=gs
  subst gq
  refine acQ 41 Tryz.func221 rfl rfl fun _ _ _=> ?_
  (repeat'((conv=>whnf);first|refine Ac ?_|refine Ae ?_|refine Aa hO Lr ?_|exact zE))
def txE (k:Int) (l:List UInt8):List UInt8:=Ah 0 k.toNat false (chS k l)
def frS (k:Int) (l:List UInt8):AV:=if Aq k l=true then .tup [Bb 0 5 (txE k l),iv 0] else .tup [A4,iv 8]
theorem Qz {k:Int} {l:List UInt8} (h:Aq k l=true):∃n:Nat,12≤n∧n≤30∧k=n:=by
 have hk:¬Ar k<0:=fun hw=>by rw[Md hw] at h;cases h
 rcases Dl k hk with h|h|h|h|h|h|h<;>exact⟨k.toNat,by omega,by omega,by omega⟩
theorem Gx {k:Int} {l:List UInt8} (h:Aq k l=true):(chS k l).length≤4*l.length:=by
 have hv:Go.Lib.validD l=true:=by unfold Aq at h;simp at h;exact h.1.1
 rw[←Ko h]
 have hl:(rns l).length≤l.length:=by
  have:=congrArg List.length (Iz l hv)
  have h1:∀q:List Nat,q.length≤(q.flatMap enc).length:=by
   intro q
   induction q with
   |nil=>simp
   |cons a r ih=>rw[List.flatMap_cons,Ap,Ag];have:=(Gf a).1;omega
  have:=h1 (rns l)
  omega
 have hw:Ar k≤4:=by unfold Ar;(repeat' split)<;>omega
 have h2:∀q:List Nat,(q.flatMap (Jl (Ar k))).length≤4*q.length:=by
  intro q
  induction q with
  |nil=>simp
  |cons a r ih=>rw[List.flatMap_cons,Ap,Ag];have:=Me (Ar k) a hw;omega
 have:=h2 (rns l)
 omega
theorem M7 (k:Int) (l:List UInt8) (hl:l.length≤16777216):Ab Tryz.prog 112 [txA k l] (fun r=>r=frS k l):=by
 have hE:=Qh k l (by omega)
 unfold frS
 unfold Fh I2 at hE
 by_cases hv:Aq k l=true
 ·rw[if_pos hv]
  rw[if_pos hv,if_pos hv] at hE
  obtain⟨n,n1,n2,rfl⟩:=Qz hv
  have h4:=Gx hv
  have hW:=D3 0 n false (chS (n:Int) l) (by omega) n2 (by omega)
  have e:txE (n:Int) l=Ah 0 n false (chS (n:Int) l):=by unfold txE;rw[Int.toNat_natCast]
  rw[e]
  refine acQ 20 Tryz.func112 rfl rfl fun _ _ _=> ?_
  (repeat'((conv=>whnf);first|refine Ae ?_|refine Aa hE rfl ?_|refine Aa hW Lr ?_|exact zE))
 ·rw[if_neg hv]
  rw[if_neg hv,if_neg hv] at hE
  refine acQ 20 Tryz.func112 rfl rfl fun _ _ _=> ?_
  (repeat'((conv=>whnf);first|refine Ac ?_|refine Aa hE rfl ?_|exact zE))
theorem AJ (k:Int):Ab Tryz.prog 222 [iv k] (fun r=>r=bv (k==22||k==26)):=by
 refine acQ 9 Tryz.func222 rfl rfl fun _ _ _=> ?_
 (repeat'((conv=>whnf);first|refine Ac ?_|refine Ae ?_|(refine Ai (fun hc hcP=> ?_) (fun hc hcP=> ?_)<;>try(exfalso;omega))));(all_goals(conv=>whnf))
 all_goals(refine A7 ?_;(repeat'(first|refine And.intro ?_ ?_|exact rfl));(all_goals(conv=>whnf)))
 all_goals(simp_all)
def Gl (b:List UInt8):Bool:=bD b&&(!(R3 b==[])&& !(Of b==22||Of b==26))
def MA (b:List UInt8):AV:=if Gl b=true then .tup [txA (Of b) (R3 b),bv true] else .tup [txA 0 [],bv false]
theorem Xu (b:List UInt8) (hb:b.length≤1000000):Ab Tryz.prog 198 [.d (Af false b)] (fun r=>r=MA b):=by
 have hS:=bE b hb
 have h1:=AJ (Of b)
 unfold MA
 have gs:Gl b=(bD b&&(!(R3 b==[])&& !(Of b==22||Of b==26))):=rfl
 generalize Gl b=q at gs⊢
 generalize Of b=K at hS h1 gs⊢
 generalize R3 b=V at hS gs⊢
 generalize bD b=Z at hS gs
 generalize (K==22||K==26)=O at h1 gs
 cases Z
 ·subst gs
  refine acQ 27 Tryz.func198 rfl rfl fun _ _ _=> ?_
  (repeat'((conv=>whnf);first|refine Ac ?_|refine Aa hS Lr ?_|exact zE))
 ·cases hv:(V==[])
  ·rw[hv] at gs
   cases O
   all_goals
    subst gs
    refine acQ 27 Tryz.func198 rfl rfl fun _ _ _=> ?_
    (repeat'((conv=>whnf);first|refine Ac ?_|refine Ae ?_|refine A0 asP ?_|refine Aa hS Lr ?_|refine Aa h1 rfl ?_|exact zE))
  ·rw[hv] at gs
   subst gs
   refine acQ 27 Tryz.func198 rfl rfl fun _ _ _=> ?_
   (repeat'((conv=>whnf);first|refine Ac ?_|refine Ae ?_|refine Ay asP ?_|refine Aa hS Lr ?_|exact zE))
def atV (a:Att):Bool:=E6 a.oid&&Er a.val
theorem T0 (b:List UInt8):Er b=(La b==0):=rfl
theorem Dh {p:Prop} (h:p:=by first|rfl|(simp only[AV.gives,AV.ren,AV.give,D.un,D.uns,An,Ao,List.nil_append,List.append_nil,List.cons_append,Av,Ee,Ef,Bn,Bd,Ck];first|done|rfl)):p:=h
theorem fW (a:Att) (ho:a.oid.length≤4000000) (hv:a.val.length≤1000000000):Ab Tryz.prog 105 [atA a] (fun r=>r=bv (atV a)):=by
 have hV:=aR a.oid ho
 unfold atV
 rw[T0]
 generalize E6 a.oid=V at hV⊢
 rcases We a.val hv with⟨h1,ta,tq,tm,tk,tl,tcs,hT⟩|⟨h1,hT⟩
 ·rw[h1]
  cases V
  all_goals
   refine acQ 19 Tryz.func105 rfl rfl fun _ _ _=> ?_
   (repeat'((conv=>whnf);first|refine Ac ?_|refine Ae ?_|refine Aa hT Dh ?_|refine Aa hV rfl ?_|exact zE))
 ·generalize M6 a.val=tO at hT
  generalize La a.val=tc at hT h1⊢
  have g1:((tc:Int)==0)=false:=by rw[beq_eq_false_iff_ne];omega
  have g2:(tc==0)=false:=by rw[beq_eq_false_iff_ne];exact h1
  cases V
  all_goals
   refine acQ 19 Tryz.func105 rfl rfl fun _ _ _=> ?_
   (repeat'((conv=>whnf);first|refine Ac ?_|refine Ae ?_|refine Aa hT Dh ?_|refine Aa hV rfl ?_));(all_goals(conv=>whnf))
   all_goals(refine A7 ?_;(repeat'(first|exact Be _|refine And.intro ?_ ?_|exact rfl));(all_goals(conv=>whnf)))
  all_goals(rw[g1,g2];try rfl)
def atE (a:Att):List UInt8:=Ah 0 16 true (Ah 0 6 false (Bq a.oid)++a.val)
theorem T1 {a:Att} (h:atV a=true):E6 a.oid=true∧Er a.val=true:=by
 unfold atV at h;simpa using h
theorem Xv (a:Att) (ho:a.oid.length≤4000000) (hv:a.val.length≤100000000):Ab Tryz.prog 76 [atA a] (fun r=>r=if atV a=true then .tup [Bb 0 5 (atE a),iv 0] else .tup [A4,iv 8]):=by
 have hV:=fW a ho (by omega)
 by_cases h:atV a=true
 ·rw[if_pos h]
  rw[h] at hV
  have hE:=Vx a.oid ho
  rw[(Rx a.oid).1 (T1 h).1] at hE
  have k1:=Fd a.oid
  have hW:=D3 0 6 false (Bq a.oid) (by omega) (by omega) (by omega)
  have k2:=As 0 6 false (Bq a.oid) (by omega)
  have hQ:=Nw [Ah 0 6 false (Bq a.oid),a.val] (by simp;omega) (by simp)
  rw[show Ah 0 16 true [Ah 0 6 false (Bq a.oid),a.val].flatten=atE a by simp[atE]] at hQ
  refine acQ 35 Tryz.func76 rfl rfl fun _ _ _=> ?_
  (repeat'((conv=>whnf);first|refine Ae ?_|refine Aa hV Dh ?_|refine Aa hE rfl ?_|refine Aa hW Dh ?_|refine Aa hQ Dh ?_|exact zE))
 ·rw[if_neg h]
  rw[show atV a=false by simpa using h] at hV
  refine acQ 35 Tryz.func76 rfl rfl fun _ _ _=> ?_
  (repeat'((conv=>whnf);first|refine Ac ?_|refine Aa hV Dh ?_|exact zE))
def atO (b:List UInt8):Option Att:=match fR b with
 |some (id,s)=>if Er s=true then some ⟨id,s⟩ else none
 |none=>none
def Wh (b:List UInt8) (r:LR):Nat×Nat:=if r.code≠0 then(r.code,r.off) else match r.l with
 |[x,y]=>if x.isB 0 6 false=false then(3,x.at') else if odC (bod b x)≠0 then(odC (bod b x),x.body) else(La (elO b y),y.at'+M6 (elO b y))
 |_::_::z::_=>(2,z.at')
 |_=>(1,b.length)
def atU (a:Att):List D:=[sD a.oid,Af true a.val]
def atR (o:Option Att) (e:Nat×Nat):AV:=match o with
 |some a=> .tup [.agg [sx a.oid,.d (Af true a.val)],erA 0 0]
 |none=> .tup [.agg [sx [],A4],erA e.1 e.2]
theorem Gm (c o:Int):Ab Tryz.prog 136 [iv c,iv o] (fun r=>r= .tup [.agg [sx [],A4],.agg [iv c,iv o]]):=by
 refine acQ 10 Tryz.func136 rfl rfl fun _ _ _=> ?_
 (all_goals(conv=>whnf))
 all_goals exact zE
theorem fX (b:List UInt8) (hb:b.length≤800000):Ab Tryz.prog 99 [.d (Af false b)] (fun r=>r=atR (atO b) (Wh b (A6 b 0 16))):=by
 have hP:=Iv b 0 16 (by omega)
 have hin:=fun x=>D4 (b:=b) (c:=0) (n:=16) (x:=x)
 have hO:atO b=match fQ b (A6 b 0 16) with
  |some (id,s)=>if Er s=true then some ⟨id,s⟩ else none
  |none=>none:=rfl
 generalize A6 b 0 16=r at hP hin hO⊢
 by_cases h1:r.code≠0
 ·rw[bA (.inl h1)] at hO
  rw[hO]
  have hF:=Gm r.code r.off
  rw[lrA,if_pos h1] at hP
  have gc:((r.code:Int) !=0)=true:=by rw[bne_iff_ne];omega
  rw[Wh,if_pos h1]
  generalize r.code=c at hP gc hF
  generalize r.off=o at hP hF
  refine acQ 127 Tryz.func99 rfl rfl fun _ _ _=> ?_
  (repeat'((conv=>whnf);first|refine Ay asP ?_|refine Aa hP Dh ?_|refine Aa hF rfl ?_|exact zE))
 rw[lrA,if_neg h1] at hP
 rw[Wh,if_neg h1]
 obtain⟨l,c,o⟩:=r
 obtain rfl:c=0:=Decidable.not_not.1 h1
 match l with
 |[]=>
  have e:atO b=none:=hO
  rw[e]
  have hF:=Gm 1 b.length
  refine acQ 127 Tryz.func99 rfl rfl fun _ _ _=> ?_
  (repeat'((conv=>whnf);first|refine Ac ?_|refine Ae ?_|refine Aa hP Dh ?_|refine Aa hF rfl ?_|exact zE))
 |[x]=>
  have e:atO b=none:=hO
  rw[e]
  have hF:=Gm 1 b.length
  refine acQ 127 Tryz.func99 rfl rfl fun _ _ _=> ?_
  (repeat'((conv=>whnf);first|refine Ac ?_|refine Ae ?_|refine Aa hP Dh ?_|refine Aa hF rfl ?_|exact zE))
 |x::y::z::q=>
  have e:atO b=none:=hO
  rw[e]
  have hF:=Gm 2 z.at'
  have g2:(x::y::z::q:List El)[2]?=some z:=rfl
  refine acQ 127 Tryz.func99 rfl rfl fun _ _ _=> ?_
  (repeat'((conv=>whnf);first|refine Ae ?_|refine Aa hP Dh ?_|refine NIdx.tab (fun _=>rfl) g2 ?_|refine Aa hF rfl ?_|(refine NBr.mk (fun hc=> ?_) (fun hc=> ?_)<;>(have hcP:=hc;(try simp only[Ag,decide_eq_true_eq,decide_eq_false_iff_not] at hcP)<;>first|(exfalso;omega)|skip))|exact zE))
 |[x,y]=>
  obtain⟨x1,x2,x3⟩:=hin x (by simp)
  obtain⟨y1,y2,y3⟩:=hin y (by simp)
  have hI:=Rs x 0 6 false
  have hlb:(bod b x).length≤b.length:=by unfold bod;rw[Al,Az];omega
  have hly:(elO b y).length≤b.length:=by unfold elO;rw[Al,Az];omega
  have hD:=Pf (bod b x) (by omega)
  have hC:=Kz (elO b y) (by omega)
  have hT:=We (elO b y) (by omega)
  have hto:=fV (elO b y)
  have hop:=T0 (elO b y)
  have g0:([x,y]:List El)[0]?=some x:=rfl
  have g1:([x,y]:List El)[1]?=some y:=rfl
  have hO':atO b=match(if x.isB 0 6 false=true∧odC (bod b x)=0 then some (odT (bod b x),elO b y) else none:Option (List UInt8×List UInt8)) with
   |some (id,s)=>if Er s=true then some ⟨id,s⟩ else none
   |none=>none:=hO
  show Ab _ _ _ (fun r=>r=atR (atO b) (if x.isB 0 6 false=false then(3,x.at') else if odC (bod b x)≠0 then(odC (bod b x),x.body) else(La (elO b y),y.at'+M6 (elO b y))))
  cases hi:x.isB 0 6 false
  ·rw[hi] at hI hO'
   rw[if_neg (by simp)] at hO'
   rw[hO',if_pos rfl]
   have hF:=Gm 3 x.at'
   refine acQ 127 Tryz.func99 rfl rfl fun _ _ _=> ?_
   (repeat'((conv=>whnf);first|refine Ac ?_|refine Ae ?_|refine Aa hP Dh ?_|refine NIdx.tab (fun _=>rfl) g0 ?_|refine Aa hI rfl ?_|refine Aa hF rfl ?_|exact zE))
  rw[hi] at hI hO'
  rw[if_neg (by simp)]
  by_cases h3:odC (bod b x)=0
  ·rw[if_pos ⟨rfl,h3⟩] at hO'
   rw[if_neg (by omega)]
   have hO2:atO b=if Er (elO b y)=true then some ⟨odT (bod b x),elO b y⟩ else none:=hO'
   rw[Oe,h3] at hD
   rw[hop] at hO2
   unfold bod at hD hlb hO2
   generalize odT ((b.drop x.body).take (x.stop-x.body))=ot at hD hO2
   unfold elO at hC hT hto hly hO2⊢
   rcases hT with⟨h4,ta,tq,tm,tk,tl,tcs,hT⟩|⟨h4,hT⟩
   ·rw[h4] at hO2
    rw[if_pos (by rfl)] at hO2
    rw[hO2]
    refine acQ 127 Tryz.func99 rfl rfl fun _ _ _=> ?_
    (repeat'((conv=>whnf);first|refine Ae ?_|refine Aa hP Dh ?_|refine NIdx.tab (fun _=>rfl) g0 ?_|refine NIdx.tab (fun _=>rfl) g1 ?_|refine Aa hI rfl ?_|refine NSl.slice (x.body) (x.stop) ?_|refine NSl.slice (y.at') (y.stop) ?_|refine Aa hD Dh ?_|refine Aa hC Dh ?_|refine Aa hT Dh ?_|refine zF ?_|exact zE))
   ·rw[if_neg (by rw[beq_iff_eq];exact h4)] at hO2
    rw[hO2]
    have gd:((La ((b.drop y.at').take (y.stop-y.at')):Int) !=0)=true:=by rw[bne_iff_ne];omega
    have hF:=Gm (La ((b.drop y.at').take (y.stop-y.at'))) ((y.at'+M6 ((b.drop y.at').take (y.stop-y.at')):Nat):Int)
    generalize M6 ((b.drop y.at').take (y.stop-y.at'))=tO at hT hto hF⊢
    generalize La ((b.drop y.at').take (y.stop-y.at'))=tC at hT h4 gd hF⊢
    refine acQ 127 Tryz.func99 rfl rfl fun _ _ _=> ?_
    (repeat'((conv=>whnf);first|refine Ae ?_|refine Ay asP ?_|refine Aa hP Dh ?_|refine NIdx.tab (fun _=>rfl) g0 ?_|refine NIdx.tab (fun _=>rfl) g1 ?_|refine Aa hI rfl ?_|refine NSl.slice (x.body) (x.stop) ?_|refine NSl.slice (y.at') (y.stop) ?_|refine Aa hD Dh ?_|refine Aa hC Dh ?_|refine Aa hT Dh ?_|refine NInt.as (((y.at'+tO:Nat):Int)) ((by rw[IntWalk.i64_in _ (by omega)];omega)) ?_|refine Aa hF rfl ?_|refine zF ?_|exact zE))
  ·rw[if_neg (fun h=>h3 h.2)] at hO'
   rw[hO',if_pos h3]
   have gd:((odC (bod b x):Int) !=0)=true:=by rw[bne_iff_ne];omega
   have hF:=Gm (odC (bod b x)) x.body
   rw[Oe] at hD
   unfold bod at hD gd hF⊢
   generalize odC ((b.drop x.body).take (x.stop-x.body))=oc at hD gd hF⊢
   generalize odT ((b.drop x.body).take (x.stop-x.body))=ot at hD
   refine acQ 127 Tryz.func99 rfl rfl fun _ _ _=> ?_
   (repeat'((conv=>whnf);first|refine Ae ?_|refine Ay asP ?_|refine Aa hP Dh ?_|refine NIdx.tab (fun _=>rfl) g0 ?_|refine Aa hI rfl ?_|refine NSl.slice (x.body) (x.stop) ?_|refine Aa hD Dh ?_|refine Aa hF rfl ?_|refine zF ?_|exact zE))
theorem fY (b:List UInt8):atO b=none→(Wh b (A6 b 0 16)).1≠0∧(Wh b (A6 b 0 16)).2≤b.length:=by
 have hin:=fun x=>D4 (b:=b) (c:=0) (n:=16) (x:=x)
 have hoff:=Hx b 0 16
 have hO:atO b=match fQ b (A6 b 0 16) with
  |some (id,s)=>if Er s=true then some ⟨id,s⟩ else none
  |none=>none:=rfl
 rw[hO]
 generalize A6 b 0 16=r at hin hoff⊢
 intro h
 unfold Wh
 by_cases h1:r.code≠0
 ·rw[if_pos h1];exact⟨h1,hoff⟩
 rw[if_neg h1]
 obtain⟨l,c,o⟩:=r
 obtain rfl:c=0:=Decidable.not_not.1 h1
 match l with
 |[]=>exact⟨by simp,Nat.le_refl _⟩
 |[x]=>exact⟨by simp,Nat.le_refl _⟩
 |x::y::z::q=>
  have:=hin z (by simp)
  exact⟨by simp,by show z.at'≤_;omega⟩
 |[x,y]=>
  have hx:=hin x (by simp)
  have hy:=hin y (by simp)
  have hl:(elO b y).length≤y.stop-y.at':=by unfold elO;rw[Al];omega
  have hto:=fV (elO b y)
  have h':(match(if x.isB 0 6 false=true∧odC (bod b x)=0 then some (odT (bod b x),elO b y) else none:Option (List UInt8×List UInt8)) with
   |some (id,s)=>if Er s=true then some (⟨id,s⟩:Att) else none
   |none=>none)=none:=h
  simp only
  cases hi:x.isB 0 6 false
  ·rw[if_pos rfl];exact⟨by simp,by show x.at'≤_;omega⟩
  rw[if_neg (by simp)]
  by_cases h3:odC (bod b x)=0
  ·rw[if_neg (by omega)]
   rw[if_pos ⟨hi,h3⟩] at h'
   have h2:(if Er (elO b y)=true then some (⟨odT (bod b x),elO b y⟩:Att) else none)=none:=h'
   rw[T0] at h2
   refine⟨fun e=> ?_,by show y.at'+M6 (elO b y)≤_;omega⟩
   have e:La (elO b y)=0:=e
   rw[e,if_pos (by rfl)] at h2;cases h2
  ·rw[if_pos h3];exact⟨h3,by show x.body≤_;omega⟩
def Eh (r:List Att):Bool:= !r.isEmpty&&(r.all atV&&G6 (r.map atE))
def Ct (r:List Att):List UInt8:=Ah 0 17 true (r.map atE).flatten
def nmV (n:List (List Att)):Bool:=n.all Eh
def nmE (n:List (List Att)):List UInt8:=Ah 0 16 true (n.map Ct).flatten
theorem N6 {r:List Att} (h:Eh r=true):r≠[]∧r.all atV=true∧G6 (r.map atE)=true:=by
 unfold Eh at h
 simp only[At] at h
 exact⟨by rintro rfl;simp at h,h.2.1,h.2.2⟩
theorem bF {α:Type} {f:α→Bool} {l:List α} {i:Nat} {x:α} (h:l[i]?=some x) (hf:f x=false):l.all f=false:=by
 cases hh:l.all f with
 |false=>rfl
 |true=>rw[List.all_eq_true.1 hh x (A8 h)] at hf;cases hf
theorem Lb {p:Prop} (h:p:=by first|rfl|(simp only[AV.gives,AV.ren,AV.give,D.un,D.uns,An,Ao,List.nil_append,List.append_nil,List.cons_append,List.map_cons,List.map_nil,AV.frzs,AV.frz,List.drop_zero,Av,Ee,Ef,Bn,Bd,Ck,Bx,Bf];first|done|rfl)):p:=h
theorem lV (r:List Att) (i:Nat) {x:Att} (hg:r[i]?=some x) (hx:x.oid.length≤4000000∧x.val.length≤100000000):Ab Tryz.prog 75 [iv i,.d (.cp false [Hh r])] (fun r=>r=if atV x=true then .tup [Bb 0 5 (atE x),iv 0] else .tup [A4,iv 8]):=by
 have hM:=Xv x hx.1 hx.2
 by_cases h:atV x=true
 all_goals
  first|rw[if_pos h] at hM⊢ |rw[if_neg h] at hM⊢
  refine acQ 12 Tryz.func75 rfl rfl fun _ _ _=> ?_
  (repeat'((conv=>whnf);first|refine NIdx.tab (fun _=>rfl) hg ?_|refine Aa hM Lb ?_|exact zE))
theorem bG (r:List Att) (hl:r.length≤100000) (hs:∀x∈r,x.oid.length≤4000000∧x.val.length≤100000000) (hq:(r.map atE).flatten.length≤100000000) (hp:∀x∈r,(atE x).length≤100000000):Ab Tryz.prog 74 [.agg [iv 17,bv true],iv r.length,.cl 75 [] [.d (.cp false [Hh r])]] (fun q=>q=if r.all atV=true∧G6 (r.map atE)=true then .tup [Bb 0 5 (Ah 0 17 true (r.map atE).flatten),iv 0] else .tup [A4,iv 8]):=by
 have hW:=Qg 0 17 true (r.map atE) (by omega) (by omega) (by omega) (by rw[List.length_map];omega)
 have hO2:=Sv (r.map atE) (by rw[List.length_map];omega) (fun p hp0=>by
  obtain⟨x,hx,rfl⟩:=List.mem_map.1 hp0
  have:=hp x hx;omega)
 refine acQ 43 Tryz.func74 rfl rfl fun _ _ _=> ?_
 (all_goals(conv=>whnf))
 refine A5 [.s 8 1 22] (fun i:Nat=>i≤r.length∧(r.take i).all atV=true) (fun i=>r.length-i) (fun i=>⟨[(2,.cl 75 [] [.d (.cp false [Hh r])]),(3,.ptr 3 0),(8,Bx 8 1 22 Dn ((r.take i).map atE)),(12,iv r.length),(13,iv i)],[(3,[iv 17,bv true])],[(8,(((r.take i).map atE).length,1,22))]⟩) 0 ⟨by omega,rfl⟩ leQ ?_
 rintro i ⟨hi,ha⟩
 have hml:((r.take i).map atE).length≤100000:=by rw[List.length_map,Al];omega
 by_cases hik:i<r.length
 ·have gi:decide ((i:Int)<r.length)=true:=decide_eq_true (by omega)
  obtain⟨x,hg⟩:∃p,r[i]?=some p:=⟨_,Am hik⟩
  have hO:=lV r i hg (hs x (A8 hg))
  cases hv:atV x
  ·rw[hv,if_neg (by simp)] at hO
   rw[if_neg (by rintro⟨h,-⟩;rw[bF hg hv] at h;cases h)]
   (repeat'((conv=>whnf);first|refine Ac ?_|refine Ay asP ?_|refine Aa hO Lb ?_|exact zE))
  ·rw[hv,if_pos rfl] at hO
   have hs':=Fe atE hg
   (repeat'((conv=>whnf);first|refine Ae ?_|refine Ay asP ?_|refine Aa hO Lb ?_|refine A2 Dn (atE x) ?_|(with_reducible refine NInt.i64 ?_)));(all_goals(conv=>whnf))
   refine⟨i+1,⟨by omega,Gw atV hg hv ha⟩,by omega,?_⟩
   rw[hs']
   exact leQ
 ·have gi:decide ((i:Int)<r.length)=false:=decide_eq_false (by omega)
  obtain rfl:i=r.length:=by omega
  rw[List.take_length] at ha⊢
  cases ho:G6 (r.map atE)
  ·rw[ho] at hO2
   rw[if_neg (by rintro⟨-,h⟩;cases h)]
   (repeat'((conv=>whnf);first|refine Ac ?_|refine A0 asP ?_|refine Aa hO2 Lb ?_|exact zE))
  ·rw[ho] at hO2
   rw[if_pos ⟨ha,rfl⟩]
   (repeat'((conv=>whnf);first|refine Ac ?_|refine Ae ?_|refine A0 asP ?_|refine Aa hO2 Lb ?_|refine Aa hW Lb ?_|exact zE))
structure Att.sm (a:Att):Prop where
 o:a.oid.length≤3000000
 v:a.val.length≤3000000
theorem T2 {a:Att} (h:a.sm):(atE a).length≤a.oid.length*5+a.val.length+20:=by
 have h1:=Fd a.oid
 have:=h.o
 have:=h.v
 have h2:=As 0 6 false (Bq a.oid) (by omega)
 have h3:=As 0 16 true (Ah 0 6 false (Bq a.oid)++a.val) (by rw[Ap];omega)
 rw[Ap] at h3
 have e:(atE a).length=(Ah 0 16 true (Ah 0 6 false (Bq a.oid)++a.val)).length:=rfl
 omega
structure rdnZ (r:List Att):Prop where
 l:r.length≤100000
 a:∀a∈r,a.sm
 e:(r.map atE).flatten.length≤90000000
structure nmZ (n:List (List Att)):Prop where
 l:n.length≤100000
 r:∀r∈n,rdnZ r
 e:(n.map Ct).flatten.length≤90000000
theorem Pk (r:List Att) (hz:rdnZ r):Ab Tryz.prog 47 [.d (Hh r)] (fun q=>q=if Eh r=true then .tup [Bb 0 5 (Ct r),iv 0] else .tup [A4,iv 8]):=by
 obtain⟨hl,hs,hq⟩:=hz
 have hS:=bG r (by omega) (fun a ha=>by have:=(hs a ha).o;have:=(hs a ha).v;exact⟨by omega,by omega⟩) (by omega) (fun a ha=>by have:=T2 (hs a ha);have:=(hs a ha).o;have:=(hs a ha).v;omega)
 cases r with
 |nil=>
  show Ab _ _ _ (fun q=>q= .tup [A4,iv 8])
  refine acQ 17 Tryz.func47 rfl rfl fun _ _ _=> ?_
  (repeat'((conv=>whnf);refine Ac ?_));(all_goals(conv=>whnf))
  all_goals exact zE
 |cons a q=>
  have gl:(((a::q).length:Int)==0)=false:=by rw[beq_eq_false_iff_ne,Ag];omega
  by_cases h:Eh (a::q)=true
  ·rw[if_pos h]
   rw[if_pos (N6 h).2] at hS
   unfold Ct
   generalize (a::q)=r at hS gl
   refine acQ 17 Tryz.func47 rfl rfl fun _ _ _=> ?_
   (repeat'((conv=>whnf);first|refine A0 asP ?_|refine Aa hS Lb ?_|exact zE))
  ·rw[if_neg h]
   rw[if_neg (fun k=>h (by unfold Eh;rw[k.1,k.2];rfl))] at hS
   generalize (a::q)=r at hS gl
   refine acQ 17 Tryz.func47 rfl rfl fun _ _ _=> ?_
   (repeat'((conv=>whnf);first|refine A0 asP ?_|refine Aa hS Lb ?_|exact zE))
theorem AK {r:List Att} (hz:rdnZ r):(Ct r).length≤(r.map atE).flatten.length+6:=by
 have hq:=hz.e
 have:=As 0 17 true (r.map atE).flatten (by omega)
 unfold Ct;omega
theorem uF (r:List (List Att)) (i:Nat) {x:List Att} (hg:r[i]?=some x) (hx:rdnZ x):Ab Tryz.prog 150 [iv i,.d (.cp false [Hi r])] (fun r=>r=if Eh x=true then .tup [Bb 0 5 (Ct x),iv 0] else .tup [A4,iv 8]):=by
 have hM:=Pk x hx
 by_cases h:Eh x=true
 all_goals
  first|rw[if_pos h] at hM⊢ |rw[if_neg h] at hM⊢
  refine acQ 12 Tryz.func150 rfl rfl fun _ _ _=> ?_
  (repeat'((conv=>whnf);first|refine NIdx.tab (fun _=>rfl) hg ?_|refine Aa hM Lb ?_|exact zE))
theorem fZ (r:List (List Att)) (hl:r.length≤100000) (hs:∀x∈r,rdnZ x) (hq:(r.map Ct).flatten.length≤100000000) (_:∀x∈r,(Ct x).length≤100000000):Ab Tryz.prog 74 [.agg [iv 16,bv false],iv r.length,.cl 150 [] [.d (.cp false [Hi r])]] (fun q=>q=if r.all Eh=true then .tup [Bb 0 5 (Ah 0 16 true (r.map Ct).flatten),iv 0] else .tup [A4,iv 8]):=by
 have hW:=Qg 0 16 true (r.map Ct) (by omega) (by omega) (by omega) (by rw[List.length_map];omega)
 refine acQ 43 Tryz.func74 rfl rfl fun _ _ _=> ?_
 (all_goals(conv=>whnf))
 refine A5 [.s 8 1 22] (fun i:Nat=>i≤r.length∧(r.take i).all Eh=true) (fun i=>r.length-i) (fun i=>⟨[(2,.cl 150 [] [.d (.cp false [Hi r])]),(3,.ptr 3 0),(8,Bx 8 1 22 Dn ((r.take i).map Ct)),(12,iv r.length),(13,iv i)],[(3,[iv 16,bv false])],[(8,(((r.take i).map Ct).length,1,22))]⟩) 0 ⟨by omega,rfl⟩ leQ ?_
 rintro i ⟨hi,ha⟩
 have hml:((r.take i).map Ct).length≤100000:=by rw[List.length_map,Al];omega
 by_cases hik:i<r.length
 ·have gi:decide ((i:Int)<r.length)=true:=decide_eq_true (by omega)
  obtain⟨x,hg⟩:∃p,r[i]?=some p:=⟨_,Am hik⟩
  have hO:=uF r i hg (hs x (A8 hg))
  cases hv:Eh x
  ·rw[hv,if_neg (by simp)] at hO
   rw[if_neg (by rintro h;rw[bF hg hv] at h;cases h)]
   (repeat'((conv=>whnf);first|refine Ac ?_|refine Ay asP ?_|refine Aa hO Lb ?_|exact zE))
  ·rw[hv,if_pos rfl] at hO
   have hs':=Fe Ct hg
   (repeat'((conv=>whnf);first|refine Ae ?_|refine Ay asP ?_|refine Aa hO Lb ?_|refine A2 Dn (Ct x) ?_|(with_reducible refine NInt.i64 ?_)));(all_goals(conv=>whnf))
   refine⟨i+1,⟨by omega,Gw Eh hg hv ha⟩,by omega,?_⟩
   rw[hs']
   exact leQ
 ·have gi:decide ((i:Int)<r.length)=false:=decide_eq_false (by omega)
  obtain rfl:i=r.length:=by omega
  rw[List.take_length] at ha⊢
  rw[if_pos ha]
  (repeat'((conv=>whnf);first|refine Ae ?_|refine A0 asP ?_|refine Aa hW Lb ?_|exact zE))
theorem uG (n:List (List Att)) (h:nmZ n):Ab Tryz.prog 111 [.d (Hi n)] (fun q=>q=if nmV n=true then .tup [Bb 0 5 (nmE n),iv 0] else .tup [A4,iv 8]):=by
 have hq:=h.e
 have hl:=h.l
 have hS:=fZ n (by omega) h.r (by omega) (fun r hr=>by
  have:=Gc (p:=Ct r) (l:=n.map Ct) (List.mem_map_of_mem hr)
  omega)
 unfold nmV nmE
 by_cases hv:n.all Eh=true
 all_goals
  first|rw[if_pos hv] at hS⊢ |rw[if_neg hv] at hS⊢
  refine acQ 14 Tryz.func111 rfl rfl fun _ _ _=> ?_
  (repeat'((conv=>whnf);refine Aa hS Lb ?_));(all_goals(conv=>whnf))
  all_goals exact zE
theorem AL (l:List (List UInt8)):D.uns (l.flatMap Jy)=l.flatMap Jy:=by
 induction l with
 |nil=>rfl
 |cons p r ih=>
  show D.un (Af false p)::D.uns (r.flatMap Jy)=_
  rw[An,ih];rfl
def Jn (r:List Att):D:=Fb true 2 atU r
theorem oW (l:List Att):D.uns (l.flatMap atU)=l.flatMap atC:=by
 induction l with
 |nil=>rfl
 |cons m r ih=>
  show D.un (sD m.oid)::D.un (Af true m.val)::D.uns (r.flatMap atU)=_
  rw[An,ih];rfl
theorem Bw (r:List Att):(Jn r).un=Hh r:=by
 show D.sl false r.length 2 (D.uns (r.flatMap atU))=_
 rw[oW];rfl
def S3 (r:List Att):List D:=[Jn r]
def Oy (n:List (List Att)):D:=Fb true 1 S3 n
theorem Y5 (n:List (List Att)):D.uns (n.flatMap S3)=n.flatMap zA:=by
 induction n with
 |nil=>rfl
 |cons m r ih=>
  show D.un (Jn m)::D.uns (r.flatMap S3)=_
  rw[Bw,ih];rfl
theorem Bl (n:List (List Att)):(Oy n).un=Hi n:=by
 show D.sl false n.length 1 (D.uns (n.flatMap S3))=_
 rw[Y5];rfl
def gA (b:List UInt8):Nat×Nat:=Wh b (A6 b 0 16)
def S8 (b:List UInt8):List El→List (List UInt8)→List Att→Option (List Att)×Nat×Nat
 |[],_,out=>(some out,0,0)
 |x::r,ps,out=>match atO (elO b x) with
  |none=>(none,(gA (elO b x)).1,x.at'+(gA (elO b x)).2)
  |some a=>if G6 (ps++[elO b x])=true then S8 b r (ps++[elO b x]) (out++[a]) else(none,7,x.at')
def AM (b:List UInt8) (r:LR):Option (List Att)×Nat×Nat:=if r.code≠0 then(none,r.code,r.off) else if r.l=[] then(none,1,b.length) else S8 b r.l [] []
def Je (b:List UInt8):Option (List Att)×Nat×Nat:=AM b (A6 b 0 17)
def QE:Option (List Att)×Nat×Nat→AV
 |(some r,_,_)=> .tup [.d (Jn r),erA 0 0]
 |(none,c,o)=> .tup [A4,erA c o]
theorem N7 (b:List UInt8) (x:El):(elO b x).length≤b.length:=by unfold elO;rw[Al,Az];omega
theorem Pl (b:List UInt8) (x:El):(elO b x).length≤x.stop-x.at':=by unfold elO;rw[Al];omega
theorem Ie {p:Prop} (h:p:=by first|rfl|(simp only[AV.gives,AV.ren,AV.give,D.un,D.uns,An,Ao,List.nil_append,List.append_nil,List.cons_append,Av,A9,Ee,Ef,Bn,Bd,Ck,Bx,Bf,AL];first|done|rfl)):p:=h
theorem Wi (b:List UInt8) (hb:b.length≤800000):Ab Tryz.prog 70 [.d (Af false b)] (fun r=>r=QE (Je b)):=by
 have hP:=Iv b 0 17 (by omega)
 have hin:=fun x=>D4 (b:=b) (c:=0) (n:=17) (x:=x)
 have hcn:=Jc b 0 17
 unfold Je
 generalize A6 b 0 17=R at hP hin hcn⊢
 unfold AM
 by_cases h1:R.code≠0
 ·rw[if_pos h1]
  rw[lrA,if_pos h1] at hP
  have gc:((R.code:Int) !=0)=true:=by rw[bne_iff_ne];omega
  generalize R.code=c at hP gc
  generalize R.off=o at hP
  show Ab _ _ _ (fun r=>r= .tup [A4,erA c o])
  refine acQ 76 Tryz.func70 rfl rfl fun _ _ _=> ?_
  (repeat'((conv=>whnf);first|refine Ay asP ?_|refine Aa hP Ie ?_|refine zF ?_|exact zE))
 rw[if_neg h1]
 rw[lrA,if_neg h1] at hP
 generalize R.l=l at hP hin hcn⊢
 by_cases hl:l=[]
 ·subst hl
  show Ab _ _ _ (fun r=>r= .tup [A4,erA 1 b.length])
  refine acQ 76 Tryz.func70 rfl rfl fun _ _ _=> ?_
  (repeat'((conv=>whnf);first|refine Ac ?_|refine Ae ?_|refine Aa hP Ie ?_|exact zE))
 rw[if_neg hl]
 have gl:((l.length:Int)==0)=false:=by rw[beq_eq_false_iff_ne];intro h;exact hl (List.eq_nil_of_length_eq_zero (by omega))
 generalize hQ:S8 b l [] []=q
 refine acQ 76 Tryz.func70 rfl rfl fun _ _ _=> ?_
 (repeat'((conv=>whnf);first|refine Ae ?_|refine A0 asP ?_|refine Aa hP Ie ?_));(all_goals(conv=>whnf))
 refine A5 [.s 6 2 125,.s 7 1 22] (fun z:Nat×List (List UInt8)×List Att=>z.1≤l.length∧z.2.1.length≤z.1∧z.2.2.length≤z.1∧(∀p∈z.2.1,p.length≤b.length)∧q=S8 b (l.drop z.1) z.2.1 z.2.2) (fun z=>l.length-z.1) (fun z=>⟨[(0,.d (Af false b)),(3,.ptr 3 0),(6,Bx 6 2 125 atU z.2.2),(7,Bx 7 1 22 Jy z.2.1),(27,.d (eJ l)),(28,iv l.length),(29,iv z.1)],[(3,[iv 0,iv 0])],[(6,(z.2.2.length,2,125)),(7,(z.2.1.length,1,22))]⟩) (0,[],[]) ⟨by simp,by simp,by simp,by simp,by rw[List.drop_zero];exact hQ.symm⟩ leQ ?_
 rintro⟨i,ps,out⟩ ⟨hi,hps,hou,hpl,he⟩
 simp only at hi hps hou hpl he
 by_cases hik:i<l.length
 ·have gi:decide ((i:Int)<l.length)=true:=decide_eq_true (by omega)
  obtain⟨x,hg⟩:∃p,l[i]?=some p:=⟨_,Am hik⟩
  obtain⟨x1,x2,x3⟩:=hin x (A8 hg)
  have hel:=N7 b x
  have hle:=Pl b x
  have hA:=fX (elO b x) (by omega)
  have hAe:=fY (elO b x)
  rw[N5 hg,S8] at he
  have hA:Ab Tryz.prog 99 [.d (Af false (elO b x))] (fun r=>r=atR (atO (elO b x)) (gA (elO b x))):=hA
  have hAe:atO (elO b x)=none→(gA (elO b x)).1≠0∧(gA (elO b x)).2≤(elO b x).length:=hAe
  generalize gA (elO b x)=er at hA hAe he
  cases ho:atO (elO b x) with
  |none=>
   rw[ho] at hA he
   obtain⟨e1,e2⟩:=hAe ho
   obtain⟨ec,eo⟩:=er
   simp only at e1 e2 he
   subst he
   have gc:((ec:Int) !=0)=true:=by rw[bne_iff_ne];omega
   have hA:Ab Tryz.prog 99 [.d (Af false (elO b x))] (fun r=>r= .tup [.agg [sx [],A4],erA ec eo]):=hA
   unfold elO at hA e2
   (repeat'((conv=>whnf);first|refine Ay asP ?_|refine NIdx.tab (fun _=>rfl) hg ?_|refine NSl.slice (x.at') (x.stop) ?_|refine A2 Jy ((b.drop x.at').take (x.stop-x.at')) ?_|refine Aa hA Ie ?_|(with_reducible refine NInt.i64 ?_)|refine zF ?_|exact zE))
  |some a=>
   rw[ho] at hA he
   have hA:Ab Tryz.prog 99 [.d (Af false (elO b x))] (fun r=>r= .tup [.agg [sx a.oid,.d (Af true a.val)],erA 0 0]):=hA
   simp only at he
   have hOr:=Sv (ps++[elO b x]) (by rw[Ap,List.length_singleton];omega) (fun p hp=>by
    rcases List.mem_append.1 hp with h|h
    ·have:=hpl p h;omega
    ·rw[List.mem_singleton.1 h];omega)
   unfold elO at hA hOr he
   cases hor:G6 (ps++[(b.drop x.at').take (x.stop-x.at')])
   ·rw[hor] at hOr he
    rw[if_neg (by simp)] at he
    subst he
    (repeat'((conv=>whnf);first|refine Ac ?_|refine Ae ?_|refine Ay asP ?_|refine NIdx.tab (fun _=>rfl) hg ?_|refine NSl.slice (x.at') (x.stop) ?_|refine A2 Jy ((b.drop x.at').take (x.stop-x.at')) ?_|refine Aa hA Ie ?_|refine Aa hOr Ie ?_|refine zF ?_|exact zE))
   ·rw[hor] at hOr he
    rw[if_pos rfl] at he
    (repeat'((conv=>whnf);first|refine Ae ?_|refine Ay asP ?_|refine NIdx.tab (fun _=>rfl) hg ?_|refine NSl.slice (x.at') (x.stop) ?_|refine A2 Jy ((b.drop x.at').take (x.stop-x.at')) ?_|refine Aa hA Ie ?_|refine Aa hOr Ie ?_|refine A2 atU a ?_|(with_reducible refine NInt.i64 ?_)));(all_goals(conv=>whnf))
    refine⟨(i+1,ps++[(b.drop x.at').take (x.stop-x.at')],out++[a]),⟨by show i+1≤_;omega,by simp;omega,by simp;omega,fun p hp=> ?_,he⟩,by show l.length-(i+1)<l.length-i;omega,?_⟩
    ·rcases List.mem_append.1 hp with h|h
     ·exact hpl p h
     ·rw[List.mem_singleton.1 h];exact hel
    ·exact leQ
 ·have gi:decide ((i:Int)<l.length)=false:=decide_eq_false (by omega)
  obtain rfl:i=l.length:=by omega
  rw[List.drop_length,S8] at he
  subst he
  (repeat'((conv=>whnf);refine A0 asP ?_));(all_goals(conv=>whnf))
  all_goals exact zE
def nmL (b:List UInt8):List El→List (List Att)→Option (List (List Att))×Nat×Nat
 |[],out=>(some out,0,0)
 |x::r,out=>match Je (elO b x) with
  |(none,c,o)=>(none,c,x.at'+o)
  |(some a,_,_)=>nmL b r (out++[a])
def nmQ (b:List UInt8) (r:LR):Option (List (List Att))×Nat×Nat:=if r.code≠0 then(none,r.code,r.off) else nmL b r.l []
def nmR (b:List UInt8):Option (List (List Att))×Nat×Nat:=nmQ b (A6 b 0 16)
def nmA:Option (List (List Att))×Nat×Nat→AV
 |(some r,_,_)=> .tup [.d (Oy r),erA 0 0]
 |(none,c,o)=> .tup [A4,erA c o]
theorem oX (b:List UInt8):∀(l:List El) (ps:List (List UInt8)) (out:List Att),(∀x∈l,x.at'≤x.stop∧x.stop≤b.length)→(S8 b l ps out).1=none→(S8 b l ps out).2.1≠0∧(S8 b l ps out).2.2≤b.length
 |[],_,_,_,h=>by cases h
 |x::r,ps,out,hx,h=>by
  have hle:=Pl b x
  have hAe:atO (elO b x)=none→(gA (elO b x)).1≠0∧(gA (elO b x)).2≤(elO b x).length:=fY (elO b x)
  have:=hx x (by simp)
  rw[S8] at h⊢
  cases ho:atO (elO b x) with
  |none=>obtain⟨e1,e2⟩:=hAe ho;exact⟨e1,by show x.at'+_≤_;omega⟩
  |some a=>
   rw[ho] at h
   simp only at h⊢
   by_cases hor:G6 (ps++[elO b x])=true
   ·rw[if_pos hor] at h⊢
    exact oX b r _ _ (fun y hy=>hx y (by simp[hy])) h
   ·rw[if_neg hor];exact⟨by simp,by show x.at'≤_;omega⟩
theorem bH (b:List UInt8) (h:(Je b).1=none):(Je b).2.1≠0∧(Je b).2.2≤b.length:=by
 have hin:=fun x=>D4 (b:=b) (c:=0) (n:=17) (x:=x)
 have hoff:=Hx b 0 17
 unfold Je at h⊢
 generalize A6 b 0 17=R at hin hoff h⊢
 unfold AM at h⊢
 by_cases h1:R.code≠0
 ·rw[if_pos h1];exact⟨h1,hoff⟩
 rw[if_neg h1] at h⊢
 by_cases hl:R.l=[]
 ·rw[if_pos hl];exact⟨by simp,Nat.le_refl _⟩
 ·rw[if_neg hl] at h⊢
  exact oX b R.l [] [] (fun y hy=>by have:=hin y hy;omega) h
theorem uH (b:List UInt8) (hb:b.length≤800000):Ab Tryz.prog 197 [.d (Af false b)] (fun r=>r=nmA (nmR b)):=by
 have hP:=Iv b 0 16 (by omega)
 have hin:=fun x=>D4 (b:=b) (c:=0) (n:=16) (x:=x)
 have hcn:=Jc b 0 16
 unfold nmR
 generalize A6 b 0 16=R at hP hin hcn⊢
 unfold nmQ
 by_cases h1:R.code≠0
 ·rw[if_pos h1]
  rw[lrA,if_pos h1] at hP
  have gc:((R.code:Int) !=0)=true:=by rw[bne_iff_ne];omega
  generalize R.code=c at hP gc
  generalize R.off=o at hP
  show Ab _ _ _ (fun r=>r= .tup [A4,erA c o])
  refine acQ 54 Tryz.func197 rfl rfl fun _ _ _=> ?_
  (repeat'((conv=>whnf);first|refine Ay asP ?_|refine Aa hP Ie ?_|refine zF ?_|exact zE))
 rw[if_neg h1]
 rw[lrA,if_neg h1] at hP
 generalize R.l=l at hP hin hcn⊢
 generalize hQ:nmL b l []=q
 refine acQ 54 Tryz.func197 rfl rfl fun _ _ _=> ?_
 (repeat'((conv=>whnf);first|refine Ae ?_|refine Aa hP Ie ?_));(all_goals(conv=>whnf))
 refine A5 [.s 6 1 26] (fun z:Nat×List (List Att)=>z.1≤l.length∧z.2.length≤z.1∧q=nmL b (l.drop z.1) z.2) (fun z=>l.length-z.1) (fun z=>⟨[(0,.d (Af false b)),(3,.ptr 3 0),(6,Bx 6 1 26 S3 z.2),(20,.d (eJ l)),(21,iv l.length),(22,iv z.1)],[(3,[iv 0,iv 0])],[(6,(z.2.length,1,26))]⟩) (0,[]) ⟨by simp,by simp,by rw[List.drop_zero];exact hQ.symm⟩ leQ ?_
 rintro⟨i,out⟩ ⟨hi,hou,he⟩
 simp only at hi hou he
 by_cases hik:i<l.length
 ·have gi:decide ((i:Int)<l.length)=true:=decide_eq_true (by omega)
  obtain⟨x,hg⟩:∃p,l[i]?=some p:=⟨_,Am hik⟩
  obtain⟨x1,x2,x3⟩:=hin x (A8 hg)
  have hel:=N7 b x
  have hle:=Pl b x
  have hA:=Wi (elO b x) (by omega)
  have hAe:=bH (elO b x)
  rw[N5 hg,nmL] at he
  generalize Je (elO b x)=er at hA hAe he
  obtain⟨eo,ec,ep⟩:=er
  cases eo with
  |none=>
   obtain⟨e1,e2⟩:=hAe rfl
   simp only at e1 e2 he
   subst he
   have gc:((ec:Int) !=0)=true:=by rw[bne_iff_ne];omega
   have hA:Ab Tryz.prog 70 [.d (Af false (elO b x))] (fun r=>r= .tup [A4,erA ec ep]):=hA
   unfold elO at hA e2
   (repeat'((conv=>whnf);first|refine Ay asP ?_|refine NIdx.tab (fun _=>rfl) hg ?_|refine NSl.slice (x.at') (x.stop) ?_|refine Aa hA Ie ?_|(with_reducible refine NInt.i64 ?_)|refine zF ?_|exact zE))
  |some a=>
   simp only at he
   have hA:Ab Tryz.prog 70 [.d (Af false (elO b x))] (fun r=>r= .tup [.d (Jn a),erA 0 0]):=hA
   unfold elO at hA
   (repeat'((conv=>whnf);first|refine Ae ?_|refine Ay asP ?_|refine NIdx.tab (fun _=>rfl) hg ?_|refine NSl.slice (x.at') (x.stop) ?_|refine Aa hA Ie ?_|refine A2 S3 a ?_|(with_reducible refine NInt.i64 ?_)));(all_goals(conv=>whnf))
   refine⟨(i+1,out++[a]),⟨by show i+1≤_;omega,by simp;omega,he⟩,by show l.length-(i+1)<l.length-i;omega,?_⟩
   exact leQ
 ·have gi:decide ((i:Int)<l.length)=false:=decide_eq_false (by omega)
  obtain rfl:i=l.length:=by omega
  rw[List.drop_length,nmL] at he
  subst he
  (repeat'((conv=>whnf);refine A0 asP ?_));(all_goals(conv=>whnf))
  all_goals exact zE
theorem AN (b:List UInt8):∀(l:List El) (out:List (List Att)),(∀x∈l,x.at'≤x.stop∧x.stop≤b.length)→(nmL b l out).1=none→(nmL b l out).2.1≠0∧(nmL b l out).2.2≤b.length
 |[],_,_,h=>by cases h
 |x::r,out,hx,h=>by
  have hle:=Pl b x
  have hAe:=bH (elO b x)
  have:=hx x (by simp)
  rw[nmL] at h⊢
  generalize Je (elO b x)=er at hAe h⊢
  obtain⟨eo,ec,ep⟩:=er
  cases eo with
  |none=>obtain⟨e1,e2⟩:=hAe rfl;exact⟨e1,by show x.at'+ep≤_;simp only at e2;omega⟩
  |some a=>exact AN b r _ (fun y hy=>hx y (by simp[hy])) h
theorem MB (b:List UInt8) (h:(nmR b).1=none):(nmR b).2.1≠0∧(nmR b).2.2≤b.length:=by
 have hin:=fun x=>D4 (b:=b) (c:=0) (n:=16) (x:=x)
 have hoff:=Hx b 0 16
 unfold nmR at h⊢
 generalize A6 b 0 16=R at hin hoff h⊢
 unfold nmQ at h⊢
 by_cases h1:R.code≠0
 ·rw[if_pos h1];exact⟨h1,hoff⟩
 rw[if_neg h1] at h⊢
 exact AN b R.l [] (fun y hy=>by have:=hin y hy;omega) h
abbrev gnQ (g:Gn):AV:= .agg [iv g.k,.d (sD g.oid),.d (sD g.tx),.d (Af true g.by'),.d (Oy g.nm),iv g.ak,.d (sD g.av),iv g.pk,.d (sD g.pv)]
def gz:Gn:=⟨0,[],[],[],[],0,[],0,[]⟩
abbrev ptA (k:Int) (c:List UInt8):AV:= .agg [iv k,.d (Af false c)]
abbrev gbA (p:Gn×Bool):AV:= .tup [gnQ p.1,bv p.2]
theorem Di {p:Prop} (h:p:=by first|rfl|(simp only[AV.gives,AV.ren,AV.give,D.un,D.uns,An,Ao,List.nil_append,List.append_nil,List.cons_append,Av,A9,Ca,Bn,Bd,B8,Ck,Bw,Bl];first|done|rfl)):p:=h
theorem R4 (k:Int) (c:List UInt8) (hl:c.length≤1000000):Ab Tryz.prog 152 [ptA k c] (fun r=>r=gbA (⟨k,[],Cu 22 c,[],[],0,[],0,[]⟩,D7 22 c==0)):=by
 have hE:=Qi 22 c hl
 refine acQ 19 Tryz.func152 rfl rfl fun _ _ _=> ?_
 (repeat'((conv=>whnf);refine Aa hE Di ?_));(all_goals(conv=>whnf))
 all_goals exact zE
theorem Wj (k:Int) (c:List UInt8) (hl:c.length≤1000000):Ab Tryz.prog 153 [ptA k c] (fun r=>r=gbA (⟨k,[],[],c,[],0,[],0,[]⟩,true)):=by
 have hE:=Kz c (by omega)
 refine acQ 10 Tryz.func153 rfl rfl fun _ _ _=> ?_
 (repeat'((conv=>whnf);first|refine Aa hE Di ?_|refine zF ?_|exact zE))
theorem gB (k:Int) (c:List UInt8) (hl:c.length≤800000):Ab Tryz.prog 156 [ptA k c] (fun r=>r=gbA (⟨k,odT c,[],[],[],0,[],0,[]⟩,(odC c:Int)==0)):=by
 have hE:=Pf c (by omega)
 rw[Oe] at hE
 refine acQ 18 Tryz.func156 rfl rfl fun _ _ _=> ?_
 (repeat'((conv=>whnf);refine Aa hE Di ?_));(all_goals(conv=>whnf))
 all_goals exact zE
def Q0 (k:Int) (c:List UInt8):Gn×Bool:=match nmR c with
 |(some n,_,_)=>(⟨k,[],[],[],n,0,[],0,[]⟩,true)
 |(none,_,_)=>(⟨k,[],[],[],[],0,[],0,[]⟩,false)
theorem AO (k:Int) (c:List UInt8) (hl:c.length≤800000):Ab Tryz.prog 154 [ptA k c] (fun r=>r=gbA (Q0 k c)):=by
 have hE:=uH c hl
 have ho:=MB c
 unfold Q0
 generalize nmR c=q at hE ho⊢
 obtain⟨n,cd,of⟩:=q
 cases n with
 |none=>
  have h0:=(ho rfl).1
  simp only at h0
  have g0:((cd:Int)==0)=false:=by rw[beq_eq_false_iff_ne];omega
  have hE:Ab Tryz.prog 197 [.d (Af false c)] (fun r=>r= .tup [A4,erA cd of]):=hE
  refine acQ 19 Tryz.func154 rfl rfl fun _ _ _=> ?_
  (repeat'((conv=>whnf);first|refine Aa hE Di ?_|refine zF ?_));(all_goals(conv=>whnf))
  all_goals(refine A7 ?_;(repeat'(first|exact trivial|exact Be _|refine And.intro ?_ ?_|exact rfl));(all_goals(conv=>whnf)))
  all_goals exact g0
 |some n=>
  have hE:Ab Tryz.prog 197 [.d (Af false c)] (fun r=>r= .tup [.d (Oy n),erA 0 0]):=hE
  refine acQ 19 Tryz.func154 rfl rfl fun _ _ _=> ?_
  (repeat'((conv=>whnf);first|refine Aa hE Di ?_|refine zF ?_|exact zE))
theorem Pm {c p:List UInt8} (h:p∈Dv c):p.length≤c.length:=by
 unfold Dv at h
 split at h
 ·cases h
 ·obtain⟨x,-,rfl⟩:=List.mem_map.1 h
  exact N7 c x
def inn (b:List UInt8) (n:Nat):List UInt8:=(By b n).getD []
theorem GM (b:List UInt8) (n:Nat) (hb:b.length≤1000000000):Ab Tryz.prog 195 [.d (Af false b),iv n] (fun r=>r=yX (By b n)):=tE b n hb
theorem Q1 (b:List UInt8) (n:Nat):(inn b n).length≤b.length:=by
 unfold inn By
 split
 ·exact Nat.zero_le _
 ·show((b.drop _).take _).length≤_;rw[Al,Az];omega
def Xw (k:Int) (p q:List UInt8):Gn×Bool:=if(Bj p).code≠0∨(Bj p).x.isB 0 6 false=false then(gz,false) else
 (⟨k,odT (p.drop (Bj p).x.body),[],inn q 0,[],0,[],0,[]⟩,(By q 0).isSome&&((odC (p.drop (Bj p).x.body):Int)==0))
def Og (k:Int) (c:List UInt8):Gn×Bool:=match Dv c with
 |[p,q]=>Xw k p q
 |_=>(gz,false)
theorem AP (k:Int) (c:List UInt8) (hl:c.length≤800000):Ab Tryz.prog 151 [ptA k c] (fun r=>r=gbA (Og k c)):=by
 have hS:=Yp c (by omega)
 have hm:=fun p=>Pm (c:=c) (p:=p)
 unfold Og
 generalize Dv c=l at hS hm⊢
 match l with
 |[]=>
  refine acQ 62 Tryz.func151 rfl rfl fun _ _ _=> ?_
  (repeat'((conv=>whnf);first|refine Ac ?_|refine Aa hS Di ?_|exact zE))
 |[x]=>
  refine acQ 62 Tryz.func151 rfl rfl fun _ _ _=> ?_
  (repeat'((conv=>whnf);first|refine Ac ?_|refine Aa hS Di ?_|exact zE))
 |x::y::z::r=>
  refine acQ 62 Tryz.func151 rfl rfl fun _ _ _=> ?_
  (repeat'((conv=>whnf);first|refine Ac ?_|refine Aa hS Di ?_|exact zE))
 |[p,q]=>
  have hp:=hm p (by simp)
  have hq:=hm q (by simp)
  have g0:([p,q]:List (List UInt8))[0]?=some p:=rfl
  have g1:([p,q]:List (List UInt8))[1]?=some q:=rfl
  have hO:=Lp p (by omega)
  have hF:=D9 p
  have hI:=Rs (Bj p).x 0 6 false
  show Ab _ _ _ (fun r=>r=gbA (Xw k p q))
  unfold Xw
  by_cases h1:(Bj p).code≠0
  ·rw[if_pos (.inl h1)]
   generalize Bj p=r1 at hO h1
   have gc:((r1.code:Int) !=0)=true:=by rw[bne_iff_ne];omega
   refine acQ 62 Tryz.func151 rfl rfl fun _ _ _=> ?_
   (repeat'((conv=>whnf);first|refine Ac ?_|refine Ae ?_|refine Ay asP ?_|refine Aa hS Di ?_|refine NIdx.tab (fun _=>rfl) g0 ?_|refine Aa hO Di ?_|exact zE))
  have h1':=Decidable.not_not.1 h1
  cases h2:(Bj p).x.isB 0 6 false
  ·rw[if_pos (.inr rfl)]
   rw[h2] at hI
   generalize Bj p=r1 at hO h1' hI
   obtain⟨x1,c1,o1⟩:=r1
   simp only at h1'
   subst h1'
   refine acQ 62 Tryz.func151 rfl rfl fun _ _ _=> ?_
   (repeat'((conv=>whnf);first|refine Ac ?_|refine Ae ?_|refine Aa hS Di ?_|refine NIdx.tab (fun _=>rfl) g0 ?_|refine Aa hO Di ?_|refine Aa hI rfl ?_|exact zE))
  ·rw[if_neg (by rintro(h|h);exact h1 h;cases h)]
   rw[h2] at hI
   have hb:=hF.1 h1'
   have hD:=Pf (p.drop (Bj p).x.body) (by rw[Az];omega)
   have hN:=GM q 0 (by omega)
   have hil:=Q1 q 0
   have hC:=Kz (inn q 0) (by omega)
   rw[Oe] at hD
   unfold inn at hC⊢
   generalize Bj p=r1 at hO h1' hI hb hD⊢
   obtain⟨x1,c1,o1⟩:=r1
   simp only at h1' hb hI hD⊢
   subst h1'
   generalize odT (p.drop x1.body)=ot at hD⊢
   generalize odC (p.drop x1.body)=oc at hD⊢
   cases hin:By q 0 with
   |none=>
    rw[hin] at hN hC
    have hC:Ab Tryz.prog 138 [.d (Af false [])] (fun r=>r= .d (Af true [])):=hC
    have hN:Ab Tryz.prog 195 [.d (Af false q),iv 0] (fun r=>r= .tup [A4,bv false]):=hN
    refine acQ 62 Tryz.func151 rfl rfl fun _ _ _=> ?_
    (repeat'((conv=>whnf);first|refine Ae ?_|refine Aa hS Di ?_|refine NIdx.tab (fun _=>rfl) g0 ?_|refine NIdx.tab (fun _=>rfl) g1 ?_|refine Aa hO Di ?_|refine Aa hI rfl ?_|refine F9 (x1.body) ?_|refine Aa hD Di ?_|refine Aa hN Di ?_|refine Bk hC Mq ?_|refine zF ?_|exact zE))
   |some v=>
    rw[hin] at hN hC
    have hC:Ab Tryz.prog 138 [.d (Af false v)] (fun r=>r= .d (Af true v)):=hC
    have hN:Ab Tryz.prog 195 [.d (Af false q),iv 0] (fun r=>r= .tup [.d (Af false v),bv true]):=hN
    refine acQ 62 Tryz.func151 rfl rfl fun _ _ _=> ?_
    (repeat'((conv=>whnf);first|refine Ac ?_|refine Ae ?_|refine Aa hS Di ?_|refine NIdx.tab (fun _=>rfl) g0 ?_|refine NIdx.tab (fun _=>rfl) g1 ?_|refine Aa hO Di ?_|refine Aa hI rfl ?_|refine F9 (x1.body) ?_|refine Aa hD Di ?_|refine Aa hN Di ?_|refine Aa hC Di ?_|refine zF ?_|exact zE))
def pK (b:List UInt8):Int:=if Gl b=true then Of b else 0
def pV (b:List UInt8):List UInt8:=if Gl b=true then R3 b else []
theorem bI (b:List UInt8) (hb:b.length≤1000000):Ab Tryz.prog 198 [.d (Af false b)] (fun r=>r= .tup [txA (pK b) (pV b),bv (Gl b)]):=by
 have h:=Xu b hb
 unfold MA at h
 unfold pK pV
 cases hd:Gl b
 all_goals
  rw[hd] at h
  exact h
def Ls (k:Int) (q:List UInt8) (ak:Int) (av:List UInt8):Gn×Bool:=(⟨k,[],[],[],[],ak,av,pK (inn q 1),pV (inn q 1)⟩,(By q 1).isSome&&Gl (inn q 1))
def Lc (k:Int) (c:List UInt8):Gn×Bool:=match Dv c with
 |[p,q]=>if(By p 0).isSome&&Gl (inn p 0) then Ls k q (pK (inn p 0)) (pV (inn p 0)) else(gz,false)
 |[q]=>Ls k q 0 []
 |_=>(gz,false)
theorem Ge {b v:List UInt8} {n:Nat} (h:By b n=some v):inn b n=v:=by unfold inn;rw[h];rfl
theorem Wk {b:List UInt8} {n:Nat} (h:By b n=none):inn b n=[]:=by unfold inn;rw[h];rfl
theorem Cl {p:Prop} (h:p:=by first|rfl|(simp only[AV.gives,AV.ren,AV.give,D.un,D.uns,An,Ao,List.nil_append,List.append_nil,List.cons_append,Av,A9,Ca,Bn,Bd,B8,Ck,Bw,Bl];first|done|rfl)):p:=h
theorem AQ (k:Int) (c:List UInt8) (hl:c.length≤800000):Ab Tryz.prog 155 [ptA k c] (fun r=>r=gbA (Lc k c)):=by
 have hS:=Yp c (by omega)
 have hm:=fun p=>Pm (c:=c) (p:=p)
 unfold Lc
 generalize Dv c=l at hS hm⊢
 match l with
 |[]=>
  refine acQ 69 Tryz.func155 rfl rfl fun _ _ _=> ?_
  (repeat'((conv=>whnf);first|refine Ac ?_|refine Ae ?_|refine Aa hS Cl ?_|exact zE))
 |x::y::z::r=>
  refine acQ 69 Tryz.func155 rfl rfl fun _ _ _=> ?_
  (repeat'((conv=>whnf);first|refine Ac ?_|refine Ae ?_|refine Aa hS Cl ?_|exact zE))
 |[q]=>
  have hq:=hm q (by simp)
  have g0:([q]:List (List UInt8))[0]?=some q:=rfl
  have hN:=GM q 1 (by omega)
  have hil:=Q1 q 1
  have hD:=bI (inn q 1) (by omega)
  show Ab _ _ _ (fun r=>r=gbA (Ls k q 0 []))
  unfold Ls
  cases hin:By q 1 with
  |none=>
   rw[hin] at hN
   rw[Wk hin] at hD⊢
   have hN:Ab Tryz.prog 195 [.d (Af false q),iv 1] (fun r=>r= .tup [A4,bv false]):=hN
   generalize pK []=K at hD⊢
   generalize pV []=V at hD⊢
   generalize Gl []=O at hD⊢
   refine acQ 69 Tryz.func155 rfl rfl fun _ _ _=> ?_
   (repeat'((conv=>whnf);first|refine Ae ?_|refine Aa hS Cl ?_|refine NIdx.tab (fun _=>rfl) g0 ?_|refine Aa hN Cl ?_|refine Bk hD Mq ?_|exact zE))
  |some v=>
   rw[hin] at hN
   rw[Ge hin] at hD⊢
   have hN:Ab Tryz.prog 195 [.d (Af false q),iv 1] (fun r=>r= .tup [.d (Af false v),bv true]):=hN
   generalize pK v=K at hD⊢
   generalize pV v=V at hD⊢
   generalize Gl v=O at hD⊢
   refine acQ 69 Tryz.func155 rfl rfl fun _ _ _=> ?_
   (repeat'((conv=>whnf);first|refine Ac ?_|refine Ae ?_|refine Aa hS Cl ?_|refine NIdx.tab (fun _=>rfl) g0 ?_|refine Aa hN Cl ?_|refine Aa hD Cl ?_|exact zE))
 |[p,q]=>
  have hp:=hm p (by simp)
  have hq:=hm q (by simp)
  have g0:([p,q]:List (List UInt8))[0]?=some p:=rfl
  have g1:([q]:List (List UInt8))[0]?=some q:=rfl
  have hN0:=GM p 0 (by omega)
  have hil0:=Q1 p 0
  have hD0:=bI (inn p 0) (by omega)
  have hN:=GM q 1 (by omega)
  have hil:=Q1 q 1
  have hD:=bI (inn q 1) (by omega)
  show Ab _ _ _ (fun r=>r=gbA (if(By p 0).isSome&&Gl (inn p 0) then Ls k q (pK (inn p 0)) (pV (inn p 0)) else(gz,false)))
  cases hin0:By p 0 with
  |none=>
   rw[hin0] at hN0
   rw[Wk hin0] at hD0
   have hN0:Ab Tryz.prog 195 [.d (Af false p),iv 0] (fun r=>r= .tup [A4,bv false]):=hN0
   rw[if_neg (by simp)]
   generalize pK []=K at hD0
   generalize pV []=V at hD0
   generalize Gl []=O at hD0
   refine acQ 69 Tryz.func155 rfl rfl fun _ _ _=> ?_
   (repeat'((conv=>whnf);first|refine Ac ?_|refine Aa hS Cl ?_|refine NIdx.tab (fun _=>rfl) g0 ?_|refine Aa hN0 Cl ?_|refine Bk hD0 Mq ?_|exact zE))
  |some v=>
   rw[hin0] at hN0
   rw[Ge hin0] at hD0⊢
   have hN0:Ab Tryz.prog 195 [.d (Af false p),iv 0] (fun r=>r= .tup [.d (Af false v),bv true]):=hN0
   cases hd0:Gl v
   ·rw[hd0] at hD0
    rw[if_neg (by simp)]
    refine acQ 69 Tryz.func155 rfl rfl fun _ _ _=> ?_
    (repeat'((conv=>whnf);first|refine Ac ?_|refine Ae ?_|refine Aa hS Cl ?_|refine NIdx.tab (fun _=>rfl) g0 ?_|refine Aa hN0 Cl ?_|refine Aa hD0 Cl ?_|exact zE))
   rw[hd0] at hD0
   rw[if_pos (by rfl)]
   generalize pK v=K0 at hD0⊢
   generalize pV v=V0 at hD0⊢
   unfold Ls
   cases hin:By q 1 with
   |none=>
    rw[hin] at hN
    rw[Wk hin] at hD⊢
    have hN:Ab Tryz.prog 195 [.d (Af false q),iv 1] (fun r=>r= .tup [A4,bv false]):=hN
    generalize pK []=K at hD⊢
    generalize pV []=V at hD⊢
    generalize Gl []=O at hD⊢
    refine acQ 69 Tryz.func155 rfl rfl fun _ _ _=> ?_
    (repeat'((conv=>whnf);first|refine Ac ?_|refine Ae ?_|refine Aa hS Cl ?_|refine NIdx.tab (fun _=>rfl) g0 ?_|refine Aa hN0 Cl ?_|refine Aa hD0 Cl ?_|refine NSl.tab (fun _=>rfl) 1 2 [q] rfl ?_|refine NIdx.tab (fun _=>rfl) g1 ?_|refine Aa hN Cl ?_|refine Bk hD Mq ?_|refine zF ?_|exact zE))
   |some v=>
    rw[hin] at hN
    rw[Ge hin] at hD⊢
    have hN:Ab Tryz.prog 195 [.d (Af false q),iv 1] (fun r=>r= .tup [.d (Af false v),bv true]):=hN
    generalize pK v=K at hD⊢
    generalize pV v=V at hD⊢
    generalize Gl v=O at hD⊢
    refine acQ 69 Tryz.func155 rfl rfl fun _ _ _=> ?_
    (repeat'((conv=>whnf);first|refine Ac ?_|refine Ae ?_|refine Aa hS Cl ?_|refine NIdx.tab (fun _=>rfl) g0 ?_|refine Aa hN0 Cl ?_|refine Aa hD0 Cl ?_|refine NSl.tab (fun _=>rfl) 1 2 [q] rfl ?_|refine NIdx.tab (fun _=>rfl) g1 ?_|refine Aa hN Cl ?_|refine Aa hD Cl ?_|refine zF ?_|exact zE))
theorem Y6 (b:List UInt8) (hb:b.length≤1000000000):Ab Tryz.prog 108 [.d (Af false b)] (fun r=>r=bv (Er b)):=by
 rw[T0]
 rcases We b hb with⟨h1,ta,tq,tm,tk,tl,tcs,hT⟩|⟨h1,hT⟩
 ·rw[h1]
  refine acQ 13 Tryz.func108 rfl rfl fun _ _ _=> ?_
  (repeat'((conv=>whnf);refine Aa hT Cl ?_));(all_goals(conv=>whnf))
  all_goals exact zE
 ·generalize M6 b=tO at hT
  generalize La b=tc at hT h1⊢
  have g1:((tc:Int)==0)=(tc==0):=Ga tc 0
  refine acQ 13 Tryz.func108 rfl rfl fun _ _ _=> ?_
  (repeat'((conv=>whnf);refine Aa hT Cl ?_));(all_goals(conv=>whnf))
  all_goals(refine A7 ?_;(repeat'(first|refine And.intro ?_ ?_|exact rfl));(all_goals(conv=>whnf)))
  all_goals exact g1
theorem J1 (n:Nat) (b:List UInt8) (hn:n≤30) (hb:b.length≤900000000):Ab Tryz.prog 109 [iv n,.d (Af false b)] (fun r=>r= .tup [Bb 0 5 (Ah 2 n true b),iv 0]):=by
 have hW:=D3 2 n true b (by omega) hn hb
 refine acQ 12 Tryz.func109 rfl rfl fun _ _ _=> ?_
 (repeat'((conv=>whnf);refine Aa hW Cl ?_));(all_goals(conv=>whnf))
 all_goals exact zE
theorem oY (k:Int):(k=0∨k=1∨k=2∨k=3∨k=4∨k=5∨k=6∨k=7∨k=8)∨((k==0)=false∧(k==1)=false∧(k==2)=false∧(k==3)=false∧(k==4)=false∧(k==5)=false∧(k==6)=false∧(k==7)=false∧(k==8)=false):=by
 simp only[beq_eq_false_iff_ne];omega
def D0 (k:Int):Bool:=k==0||(k==3||(k==4||k==5))
theorem gC (k:Int):Ab Tryz.prog 82 [iv k] (fun r=>r=bv (D0 k)):=by
 rcases oY k with(h|h|h|h|h|h|h|h|h)|⟨h0,h1,h2,h3,h4,h5,h6,h7,h8⟩
 case inr=>
  rw[show D0 k=false by unfold D0;rw[h0,h3,h4,h5];rfl]
  refine acQ 9 Tryz.func82 rfl rfl fun _ _ _=> ?_
  (repeat'((conv=>whnf);refine A0 asP ?_));(all_goals(conv=>whnf))
  all_goals exact zE
 all_goals
  subst h
  refine acQ 9 Tryz.func82 rfl rfl fun _ _ _=> ?_
  (repeat'((conv=>whnf);first|refine Ac ?_|refine Ae ?_|exact zE))
def ip (n:Nat):Bool:=n==4||(n==8||(n==16||n==32))
def S9 (g:Gn):Bool:=if g.k=0 then Er g.by' else if g.k=3 then Er (Ah 2 3 true g.by') else if g.k=7 then ip g.by'.length else true
theorem Y7 (g:Gn) (hb:g.by'.length≤100000000):Ab Tryz.prog 80 [gnA g] (fun r=>r=bv (S9 g)):=by
 obtain⟨k,oid,tx,by',nm,ak,av,pk,pv⟩:=g
 simp only at hb
 have hO:=Y6 by' (by omega)
 have hX:=J1 3 by' (by omega) (by omega)
 have hle:=As 2 3 true by' (by omega)
 have hO3:=Y6 (Ah 2 3 true by') (by omega)
 unfold S9
 simp only
 rcases oY k with(h|h|h|h|h|h|h|h|h)|⟨h0,h1,h2,h3,h4,h5,h6,h7,h8⟩
 case inr=>
  rw[if_neg (by simpa using h0),if_neg (by simpa using h3),if_neg (by simpa using h7)]
  refine acQ 48 Tryz.func80 rfl rfl fun _ _ _=> ?_
  (repeat'((conv=>whnf);refine A0 asP ?_));(all_goals(conv=>whnf))
  all_goals exact zE
 case inl.inr.inr.inr.inr.inr.inr.inr.inl=>
  subst h
  rw[if_neg (by decide),if_neg (by decide),if_pos rfl]
  unfold ip
  have b1:=Ga by'.length 4
  have b2:=Ga by'.length 8
  have b3:=Ga by'.length 16
  have b4:=Ga by'.length 32
  generalize (by'.length==4)=c1 at b1⊢
  generalize (by'.length==8)=c2 at b2⊢
  generalize (by'.length==16)=c3 at b3⊢
  generalize (by'.length==32)=c4 at b4⊢
  cases c1<;>cases c2<;>cases c3<;>cases c4
  all_goals
   refine acQ 48 Tryz.func80 rfl rfl fun _ _ _=> ?_
   (repeat'((conv=>whnf);first|refine Ac ?_|refine Ae ?_|refine Ay asP ?_|refine A0 asP ?_));(all_goals(conv=>whnf))
   all_goals(refine A7 ?_;(repeat'(first|exact Be _|refine And.intro ?_ ?_|exact rfl));(all_goals(conv=>whnf)))
   all_goals exact b4
 case inl.inl=>
  subst h
  rw[if_pos rfl]
  refine acQ 48 Tryz.func80 rfl rfl fun _ _ _=> ?_
  (repeat'((conv=>whnf);first|refine Ac ?_|refine Aa hO Cl ?_|exact zE))
 case inl.inr.inr.inr.inl=>
  subst h
  rw[if_neg (by decide),if_pos rfl]
  refine acQ 48 Tryz.func80 rfl rfl fun _ _ _=> ?_
  (repeat'((conv=>whnf);first|refine Ac ?_|refine Ae ?_|refine Aa hX Cl ?_|refine Aa hO3 Cl ?_|exact zE))
 all_goals
  subst h
  rw[if_neg (by decide),if_neg (by decide),if_neg (by decide)]
  refine acQ 48 Tryz.func80 rfl rfl fun _ _ _=> ?_
  (repeat'((conv=>whnf);refine Ae ?_));(all_goals(conv=>whnf))
  all_goals exact zE
def zT (k:Int) (l:List UInt8):Bool:=k==0&&l==[]
def alB (a b c d e:Bool) (g:Gn):Bool:=(a||g.oid==[])&&((b||g.tx==[])&&((c||(g.by'.length:Int)==0)&&((d||(g.nm.length:Int)==0)&&(e||(zT g.ak g.av&&zT g.pk g.pv)))))
def Cr (g:Gn):Bool:=alB (g.k==0||g.k==8) (g.k==1||(g.k==2||g.k==6)) (g.k==0||(g.k==3||g.k==7)) (g.k==4) (g.k==5) g
theorem uI (g:Gn):Ab Tryz.prog 79 [gnA g] (fun r=>r=bv (Cr g)):=by
 obtain⟨k,oid,tx,by',nm,ak,av,pk,pv⟩:=g
 unfold Cr alB zT
 simp only
 rcases oY k with(h|h|h|h|h|h|h|h|h)|⟨h0,h1,h2,h3,h4,h5,h6,h7,h8⟩
 case inr=>
  rw[h0,h1,h2,h3,h4,h5,h6,h7,h8]
  refine acQ 86 Tryz.func79 rfl rfl fun _ _ _=> ?_
  (repeat'((conv=>whnf);first|refine Ac ?_|refine Ae ?_|refine A0 asP ?_|refine Aj (Eb rfl rfl (ltN rfl) rfl rfl) ?_|(refine Ai (fun hc hcP=> ?_) (fun hc hcP=> ?_)<;>try(exfalso;omega))|refine NBr.mk (fun hc=> ?_) (fun hc=> ?_)));(all_goals(conv=>whnf))
  all_goals(refine A7 ?_;(repeat'(first|refine And.intro ?_ ?_|exact rfl));(all_goals(conv=>whnf)))
  all_goals(simp_all)
 all_goals
  subst h
  refine acQ 86 Tryz.func79 rfl rfl fun _ _ _=> ?_
  (repeat'((conv=>whnf);first|refine Ac ?_|refine Ae ?_|refine Aj (Eb rfl rfl (ltN rfl) rfl rfl) ?_|(refine Ai (fun hc hcP=> ?_) (fun hc hcP=> ?_)<;>try(exfalso;omega))|refine NBr.mk (fun hc=> ?_) (fun hc=> ?_)));(all_goals(conv=>whnf))
  all_goals(refine A7 ?_;(repeat'(first|refine And.intro ?_ ?_|exact rfl));(all_goals(conv=>whnf)))
  all_goals(simp_all)
def PN (a b:List UInt8):Nat→List UInt8
 |0=>[]
 |1=>a
 |_+2=>a++b
def M8 (g:Gn):Option (List UInt8):=
 if(zT g.ak g.av||Aq g.ak g.av)&&Aq g.pk g.pv then some ((if zT g.ak g.av then [] else Ah 2 0 true (txE g.ak g.av))++Ah 2 1 true (txE g.pk g.pv)) else none
def En (g:Gn):Option (List UInt8):=
 if g.k=0 then(if E6 g.oid then some (Ah 0 6 false (Bq g.oid)++Ah 2 0 true g.by') else none)
 else if g.k=1∨g.k=2∨g.k=6 then(if Aq 22 g.tx then some (chS 22 g.tx) else none)
 else if g.k=3∨g.k=7 then some g.by'
 else if g.k=4 then(if nmV g.nm then some (nmE g.nm) else none)
 else if g.k=5 then M8 g
 else if g.k=8 then(if E6 g.oid then some (Bq g.oid) else none)
 else none
def QF:Option (List UInt8)→AV
 |some c=> .tup [.d (Af false c),iv 0]
 |none=> .tup [.d (Af false []),iv 8]
structure Gn.sm (g:Gn):Prop where
 o:g.oid.length≤3000000
 t:g.tx.length≤3000000
 b:g.by'.length≤3000000
 n:nmZ g.nm
 a:g.av.length≤3000000
 p:g.pv.length≤3000000
theorem Gg {k:Int} {l:List UInt8} (h:Aq k l=true) (hl:l.length≤3000000):(txE k l).length≤4*l.length+6:=by
 have h4:=Gx h
 have:=As 0 k.toNat false (chS k l) (by omega)
 unfold txE;omega
theorem JV {k:Int} {l:List UInt8} (hl:l.length≤3000000) (h:Aq k l=true):Ab Tryz.prog 112 [txA k l] (fun r=>r= .tup [Bb 0 5 (txE k l),iv 0]):=by
 have:=M7 k l (by omega)
 rwa[frS,if_pos h] at this
theorem JW {k:Int} {l:List UInt8} (hl:l.length≤3000000) (h:Aq k l=false):Ab Tryz.prog 112 [txA k l] (fun r=>r= .tup [A4,iv 8]):=by
 have:=M7 k l (by omega)
 rwa[frS,if_neg (by rw[h];simp)] at this
theorem T3 {s:List UInt8} (h:E6 s=false):Xq s=8∧Bq s=[]:=by
 unfold E6 at h;unfold Xq Bq
 cases ha:Ex s with
 |none=>exact⟨rfl,rfl⟩
 |some a=>rw[ha] at h;cases h
theorem Lt {p:Prop} (h:p:=by first|rfl|(simp only[AV.gives,AV.ren,AV.give,D.un,D.uns,An,Ao,List.nil_append,List.append_nil,List.cons_append,Av,A9,Ca,Bn,Bd,B8,Ck,Bw,Bl];first|done|rfl)):p:=h
theorem bJ (g:Gn) (hs:g.sm):Ab Tryz.prog 81 [gnA g] (fun r=>r=QF (En g)):=by
 obtain⟨k,oid,tx,by',nm,ak,av,pk,pv⟩:=g
 obtain⟨s1,s2,s3,s4,s5,s6⟩:=hs
 simp only at s1 s2 s3 s4 s5 s6
 have k1:=Fd oid
 have hE:=Vx oid (by omega)
 have hW:=D3 0 6 false (Bq oid) (by omega) (by omega) (by omega)
 have hX:=J1 0 by' (by omega) (by omega)
 have hle:=As 2 0 true by' (by omega)
 have hlo:=As 0 6 false (Bq oid) (by omega)
 have hCo:=Pc [Ah 0 6 false (Bq oid),Ah 2 0 true by'] (by simp;omega) (by simp)
 rw[show [Ah 0 6 false (Bq oid),Ah 2 0 true by'].flatten=Ah 0 6 false (Bq oid)++Ah 2 0 true by' by simp] at hCo
 have hT:Ab Tryz.prog 110 [.agg [iv 22,.d (.v (.string ⟨⟨tx⟩⟩))]] (fun r=>r= .tup [.d (Af true (Fh 22 tx)),iv (I2 22 tx)]):=Qh 22 tx (by omega)
 have hN:=uG nm s4
 unfold En
 simp only
 rcases oY k with(h|h|h|h|h|h|h|h|h)|⟨h0,h1,h2,h3,h4,h5,h6,h7,h8⟩
 case inr=>
  have e:¬k=0∧¬(k=1∨k=2∨k=6)∧¬(k=3∨k=7)∧¬k=4∧¬k=5∧¬k=8:=by
   simp only[beq_eq_false_iff_ne] at h0 h1 h2 h3 h4 h5 h6 h7 h8;omega
  rw[if_neg e.1,if_neg e.2.1,if_neg e.2.2.1,if_neg e.2.2.2.1,if_neg e.2.2.2.2.1,if_neg e.2.2.2.2.2]
  show Ab _ _ _ (fun r=>r= .tup [.d (Af false []),iv 8])
  refine acQ 118 Tryz.func81 rfl rfl fun _ _ _=> ?_
  (repeat'((conv=>whnf);refine A0 asP ?_));(all_goals(conv=>whnf))
  all_goals exact zE
 case inl.inl=>
  subst h
  rw[if_pos rfl]
  cases ho:E6 oid
  ·rw[(T3 ho).1,(T3 ho).2] at hE
   show Ab _ _ _ (fun r=>r= .tup [.d (Af false []),iv 8])
   refine acQ 118 Tryz.func81 rfl rfl fun _ _ _=> ?_
   (repeat'((conv=>whnf);first|refine Ac ?_|refine Aa hE rfl ?_|exact zE))
  ·rw[(Rx oid).1 ho] at hE
   show Ab _ _ _ (fun r=>r= .tup [.d (Af false (Ah 0 6 false (Bq oid)++Ah 2 0 true by')),iv 0])
   refine acQ 118 Tryz.func81 rfl rfl fun _ _ _=> ?_
   (repeat'((conv=>whnf);first|refine Ac ?_|refine Ae ?_|refine Aa hE rfl ?_|refine Aa hW Lt ?_|refine Aa hX Lt ?_|refine Aa hCo Lt ?_|exact zE))
 case inl.inr.inr.inr.inr.inl=>
  subst h
  rw[if_neg (by decide),if_neg (by decide),if_neg (by decide),if_pos rfl]
  cases ho:nmV nm
  ·rw[if_neg (by rw[ho];simp)] at hN
   show Ab _ _ _ (fun r=>r= .tup [.d (Af false []),iv 8])
   refine acQ 118 Tryz.func81 rfl rfl fun _ _ _=> ?_
   (repeat'((conv=>whnf);first|refine Ac ?_|refine Ae ?_|refine Aa hN Lt ?_|exact zE))
  ·rw[if_pos ho] at hN
   show Ab _ _ _ (fun r=>r= .tup [.d (Af false (nmE nm)),iv 0])
   refine acQ 118 Tryz.func81 rfl rfl fun _ _ _=> ?_
   (repeat'((conv=>whnf);first|refine Ac ?_|refine Ae ?_|refine Aa hN Lt ?_|exact zE))
 case inl.inr.inr.inr.inr.inr.inl=>
  subst h
  rw[if_neg (by decide),if_neg (by decide),if_neg (by decide),if_neg (by decide),if_pos rfl]
  unfold M8
  simp only
  generalize hz:zT ak av=z
  have gz':(ak==0&&av==[])=z:=hz
  generalize hpre:(if z=true then [] else Ah 2 0 true (txE ak av))=pre
  have hprel:(z||Aq ak av)=true→pre.length≤13000000:=fun h=>by
   cases z
   ·rw[Bool.false_or] at h
    have h1:=Gg h s5
    have h2:=As 2 0 true (txE ak av) (by omega)
    rw[←hpre,if_neg (by simp)];omega
   ·rw[←hpre,if_pos rfl];simp
  refine acQ 118 Tryz.func81 rfl rfl fun _ _ _=> ?_
  (repeat'((conv=>whnf);first|refine Ac ?_|refine Ae ?_));(all_goals(conv=>whnf))
  refine A5 [.s 8 1 5] (fun i:Nat=>i≤2∧(1≤i→(z||Aq ak av)=true)∧(2≤i→Aq pk pv=true)) (fun i=>2-i) (fun i=>⟨[(1,.ptr 1 0),(8,Bb 8 5 (PN pre (Ah 2 1 true (txE pk pv)) i)),(15,iv 5),(75,.d (.sl false 2 2 [iD ak,sD av,iD pk,sD pv])),(76,iv 2),(77,iv i)],[(1,[iv 5,.d (sD oid),.d (sD tx),.d (Af false by'),.d (Hi nm),iv ak,.d (sD av),iv pk,.d (sD pv)])],[(8,((PN pre (Ah 2 1 true (txE pk pv)) i).length,1,5))]⟩) 0 ⟨by omega,by omega,by omega⟩ leQ ?_
  rintro i ⟨hi,hA,hP⟩
  match i,hi with
  |0,_=>
   cases z
   ·cases ha:Aq ak av
    ·have hF:=JW s5 ha
     rw[show((false||false)&&Aq pk pv)=false by rfl,if_neg (by simp)]
     (repeat'((conv=>whnf);first|refine Ac ?_|refine A0 asP ?_|refine Qb 0 ?_|refine Aj (Eb rfl rfl (ltN rfl) rfl rfl) ?_|refine Aa hF rfl ?_|exact zE))
    ·have hF:=JV s5 ha
     have h1:=Gg ha s5
     have hX:=J1 0 (txE ak av) (by omega) (by omega)
     have h2:=As 2 0 true (txE ak av) (by omega)
     rw[if_neg (by simp)] at hpre
     rw[←hpre]
     (repeat'((conv=>whnf);first|refine Ac ?_|refine Ae ?_|refine A0 asP ?_|refine Qb 0 ?_|refine Aj (Eb rfl rfl (ltN rfl) rfl rfl) ?_|refine Aa hF rfl ?_|refine Aa hX Lt ?_|(refine NApp.bytes ?_ (by show([]:List UInt8).length+_≤_;simp only[List.length_nil];omega))|(with_reducible refine NInt.i64 ?_)));(all_goals(conv=>whnf))
     refine⟨1,⟨by omega,fun _=>rfl,by omega⟩,by omega,?_⟩
     exact leQ
   ·rw[if_pos rfl] at hpre
    rw[←hpre]
    (repeat'((conv=>whnf);first|refine Ac ?_|refine Ay asP ?_|refine Qb 0 ?_|refine Aj (Eb rfl rfl (ltN rfl) rfl rfl) ?_|(with_reducible refine NInt.i64 ?_)));(all_goals(conv=>whnf))
    refine⟨1,⟨by omega,fun _=>rfl,by omega⟩,by omega,?_⟩
    exact leQ
  |1,_=>
   have hA:=hA (by omega)
   have hpl:=hprel hA
   cases hp:Aq pk pv
   ·have hF:=JW s6 hp
    rw[Bool.and_false,if_neg (by simp)]
    (repeat'((conv=>whnf);first|refine Ac ?_|refine Ae ?_|refine Qb 1 ?_|refine Aa hF rfl ?_|exact zE))
   ·have hF:=JV s6 hp
    have h1:=Gg hp s6
    have hX:=J1 1 (txE pk pv) (by omega) (by omega)
    have h2:=As 2 1 true (txE pk pv) (by omega)
    (repeat'((conv=>whnf);first|refine Ac ?_|refine Ae ?_|refine Qb 1 ?_|refine Aa hF rfl ?_|refine Aa hX Lt ?_|(refine NApp.bytes ?_ (by show pre.length+_≤_;omega))|(with_reducible refine NInt.i64 ?_)));(all_goals(conv=>whnf))
    refine⟨2,⟨by omega,fun _=>hA,fun _=>rfl⟩,by omega,?_⟩
    exact leQ
  |2,_=>
   rw[hA (by omega),hP (by omega)]
   (repeat'((conv=>whnf);refine Ae ?_));(all_goals(conv=>whnf))
   all_goals exact zE
 case inl.inr.inr.inr.inr.inr.inr.inr.inr=>
  subst h
  rw[if_neg (by decide),if_neg (by decide),if_neg (by decide),if_neg (by decide),if_neg (by decide),if_pos rfl]
  cases ho:E6 oid
  ·rw[(T3 ho).1,(T3 ho).2] at hE
   show Ab _ _ _ (fun r=>r= .tup [.d (Af false []),iv 8])
   refine acQ 118 Tryz.func81 rfl rfl fun _ _ _=> ?_
   (repeat'((conv=>whnf);first|refine Ac ?_|refine Ae ?_|refine Aa hE rfl ?_|exact zE))
  ·rw[(Rx oid).1 ho] at hE
   show Ab _ _ _ (fun r=>r= .tup [.d (Af false (Bq oid)),iv 0])
   refine acQ 118 Tryz.func81 rfl rfl fun _ _ _=> ?_
   (repeat'((conv=>whnf);first|refine Ac ?_|refine Ae ?_|refine Aa hE rfl ?_|exact zE))
 case inl.inr.inr.inr.inl=>
  subst h
  rw[if_neg (by decide),if_neg (by decide),if_pos (by decide)]
  show Ab _ _ _ (fun r=>r= .tup [.d (Af false by'),iv 0])
  refine acQ 118 Tryz.func81 rfl rfl fun _ _ _=> ?_
  (repeat'((conv=>whnf);first|refine Ac ?_|refine Ae ?_|exact zE))
 case inl.inr.inr.inr.inr.inr.inr.inr.inl=>
  subst h
  rw[if_neg (by decide),if_neg (by decide),if_pos (by decide)]
  show Ab _ _ _ (fun r=>r= .tup [.d (Af false by'),iv 0])
  refine acQ 118 Tryz.func81 rfl rfl fun _ _ _=> ?_
  (repeat'((conv=>whnf);first|refine Ac ?_|refine Ae ?_|exact zE))
 all_goals
  subst h
  rw[if_neg (by decide),if_pos (by decide)]
  unfold Fh I2 at hT
  cases hv:Aq 22 tx
  ·rw[hv] at hT
   show Ab _ _ _ (fun r=>r= .tup [.d (Af false []),iv 8])
   refine acQ 118 Tryz.func81 rfl rfl fun _ _ _=> ?_
   (repeat'((conv=>whnf);first|refine Ac ?_|refine Ae ?_|refine Aa hT rfl ?_|exact zE))
  ·rw[hv] at hT
   show Ab _ _ _ (fun r=>r= .tup [.d (Af false (chS 22 tx)),iv 0])
   refine acQ 118 Tryz.func81 rfl rfl fun _ _ _=> ?_
   (repeat'((conv=>whnf);first|refine Ac ?_|refine Ae ?_|refine Aa hT rfl ?_|exact zE))
end Go.Proofs.YtokmjjkbginodaaGreatDoor
