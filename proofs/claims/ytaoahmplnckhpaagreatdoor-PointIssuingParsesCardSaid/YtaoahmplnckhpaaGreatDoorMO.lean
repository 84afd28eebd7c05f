/- MO: the texts Att Att2 Dn Dn2 GenP GenQ GenC, one behind the other. No condition but what each lemma says. -/
import Derived.Test.YtaoahmplnckhpaaGreatDoorMM
set_option maxRecDepth 100000
set_option maxHeartbeats 16000000
namespace Go.Proofs.YtaoahmplnckhpaaGreatDoor
open Go.RowKit
def Kz (b:List UInt8):Nat:=(Ex b).code
def Mw (b:List UInt8):Nat:=(Ex b).off
theorem fK (b:List UInt8):Mw b≤b.length:=by
 have hF:=Gs b 16 b.length (by omega) 0 (by omega)
 dsimp only at hF
 unfold Mw Ex
 generalize By b 16 0 b.length=r at hF
 by_cases h:r.code=0
 ·obtain⟨s,rfl,h1,h2⟩:=hF.1 h
  by_cases h3:s.stop<b.length
  ·rw[H1 h3];exact h2
  ·rw[Kw h3];exact Nat.zero_le _
 ·obtain⟨h1,h2⟩:=hF.2 h
  obtain⟨l,c,o⟩:=r
  have hl:l=[]:=h2
  subst hl
  rw[I6];exact h1
theorem V3 (b:List UInt8) (hb:b.length≤1000000000):(Kz b=0∧∃(a q m:Nat) (k:Bool) (l:List UInt8) (cs:List D),Ab Tryz.prog 125 [.d (Af false b)] (fun r=>r= .tup [.agg [iv a,iv q,bv k,.d (Af true l),.d (.sl true m 5 cs)],erA 0 0]))∨
 (Kz b≠0∧Ab Tryz.prog 125 [.d (Af false b)] (fun r=>r= .tup [.agg [iv 0,iv 0,bv false,A3,A3],erA (Kz b) (Mw b)])):=by
 have hP:=sL b hb
 unfold Kz Mw
 rcases sO b with⟨s,h⟩|⟨c,o,hc0,h⟩
 ·rw[h] at hP⊢
  obtain⟨a,q,c,n,k,b',ks⟩:=s
  exact .inl ⟨rfl,c,n,ks.length,k,b',J7 true ks,hP⟩
 ·rw[h] at hP⊢
  refine .inr ⟨hc0,?_⟩
  cases c with
  |zero=>exact absurd rfl hc0
  |succ c=>exact hP
def V4 (b:List UInt8):List UInt8:=(b.drop (Bh b).x.body).take ((Bh b).x.stop-(Bh b).x.body)
def St (b:List UInt8):Bool:=(Bh b).code==0&&((Bh b).x.c==0&& !(Bh b).x.k)
def Nx (b:List UInt8):Int:=if St b then Fg (Bh b).x.n (V4 b) else 0
def Rw (b:List UInt8):List UInt8:=if St b then Cw (Bh b).x.n (V4 b) else []
def aT (b:List UInt8):Bool:=St b&&D4 (Bh b).x.n (V4 b)==0
theorem yF (b:List UInt8):(V4 b).length≤b.length:=by
 unfold V4;rw[Ao,Ax];omega
theorem Lh {p:Prop} (h:p:=by first|rfl|(simp only[AV.gives,AV.ren,AV.give,D.un,D.uns,Aj,Am,List.nil_append,List.append_nil,List.cons_append,Av,Er,Es,Bn,A8,Cj];first|done|rfl)):p:=h
theorem aU (b:List UInt8) (hb:b.length≤1000000):Ab Tryz.prog 226 [.d (Af false b)] (fun r=>r= .tup [txA (Nx b) (Rw b),bv (aT b)]):=by
 have hO:=Ld b (by omega)
 have hF:=D6 b
 have hD:=P5 (Bh b).x.n (V4 b) (by have:=yF b;omega)
 unfold Nx Rw aT
 have gs:St b=((Bh b).code==0&&((Bh b).x.c==0&& !(Bh b).x.k)):=rfl
 unfold V4 at hD⊢
 generalize St b=q at gs⊢
 generalize Bh b=r at hO hF hD gs⊢
 obtain⟨⟨c,n,k,p,body,stop⟩,cd,of⟩:=r
 simp only at hF hD gs⊢
 by_cases h1:cd=0
 case neg=>
  have g1:((cd:Int) !=0)=true:=by rw[bne_iff_ne];omega
  have gq:q=false:=by rw[gs,show(cd==0)=false by rw[beq_eq_false_iff_ne];exact h1];rfl
  subst gq
  refine acQ 41 Tryz.func226 rfl rfl fun _ _ _=> ?_
  (repeat'((conv=>whnf);first|refine Ac ?_|refine Aw asP ?_|refine Aa hO Lh ?_|exact zE))
 subst h1
 by_cases h2:c=0
 case neg=>
  have g1:((c:Int) !=0)=true:=by rw[bne_iff_ne];omega
  have gq:q=false:=by rw[gs,show(c==0)=false by rw[beq_eq_false_iff_ne];exact h2];rfl
  subst gq
  refine acQ 41 Tryz.func226 rfl rfl fun _ _ _=> ?_
  (repeat'((conv=>whnf);first|refine Ac ?_|refine Ae ?_|refine Aw asP ?_|refine Aa hO Lh ?_|exact zE))
 subst h2
 cases k
 ·have gq:q=true:=gs
  subst gq
  generalize Fg n ((b.drop body).take (stop-body))=K at hD⊢
  generalize Cw n ((b.drop body).take (stop-body))=V at hD⊢
  generalize D4 n ((b.drop body).take (stop-body))=Z at hD⊢
  refine acQ 41 Tryz.func226 rfl rfl fun _ _ _=> ?_
  (repeat'((conv=>whnf);first|refine Ae ?_|refine Aa hO Lh ?_|refine NSl.slice (body) (stop) ?_|refine Aa hD Lh ?_|refine zF ?_|exact zE))
 ·have gq:q=false:=gs
  subst gq
  refine acQ 41 Tryz.func226 rfl rfl fun _ _ _=> ?_
  (repeat'((conv=>whnf);first|refine Ac ?_|refine Ae ?_|refine Aa hO Lh ?_|exact zE))
def txE (k:Int) (l:List UInt8):List UInt8:=Ah 0 k.toNat false (chS k l)
def frS (k:Int) (l:List UInt8):AV:=if Al k l=true then .tup [A7 0 5 (txE k l),iv 0] else .tup [A3,iv 8]
theorem Ql {k:Int} {l:List UInt8} (h:Al k l=true):∃n:Nat,12≤n∧n≤30∧k=n:=by
 have hk:¬Ap k<0:=fun hw=>by rw[L8 hw] at h;cases h
 rcases Dm k hk with h|h|h|h|h|h|h<;>exact⟨k.toNat,by omega,by omega,by omega⟩
theorem Gu {k:Int} {l:List UInt8} (h:Al k l=true):(chS k l).length≤4*l.length:=by
 have hv:Go.Lib.validD l=true:=by unfold Al at h;simp at h;exact h.1.1
 rw[←Kf h]
 have hl:(rns l).length≤l.length:=by
  have:=congrArg List.length (Iu l hv)
  have h1:∀q:List Nat,q.length≤(q.flatMap enc).length:=by
   intro q
   induction q with
   |nil=>simp
   |cons a r ih=>rw[List.flatMap_cons,Ak,Ag];have:=(Gg a).1;omega
  have:=h1 (rns l)
  omega
 have hw:Ap k≤4:=by unfold Ap;(repeat' split)<;>omega
 have h2:∀q:List Nat,(q.flatMap (Jf (Ap k))).length≤4*q.length:=by
  intro q
  induction q with
  |nil=>simp
  |cons a r ih=>rw[List.flatMap_cons,Ak,Ag];have:=L9 (Ap k) a hw;omega
 have:=h2 (rns l)
 omega
theorem Mx (k:Int) (l:List UInt8) (hl:l.length≤16777216):Ab Tryz.prog 101 [txA k l] (fun r=>r=frS k l):=by
 have hE:=P4 k l (by omega)
 unfold frS
 unfold Fc Ix at hE
 by_cases hv:Al k l=true
 ·rw[if_pos hv]
  rw[if_pos hv,if_pos hv] at hE
  obtain⟨n,n1,n2,rfl⟩:=Ql hv
  have h4:=Gu hv
  have hW:=D2 0 n false (chS (n:Int) l) (by omega) n2 (by omega)
  have e:txE (n:Int) l=Ah 0 n false (chS (n:Int) l):=by unfold txE;rw[Int.toNat_natCast]
  rw[e]
  refine acQ 20 Tryz.func101 rfl rfl fun _ _ _=> ?_
  (repeat'((conv=>whnf);first|refine Ae ?_|refine Aa hE rfl ?_|refine Aa hW Lh ?_|exact zE))
 ·rw[if_neg hv]
  rw[if_neg hv,if_neg hv] at hE
  refine acQ 20 Tryz.func101 rfl rfl fun _ _ _=> ?_
  (repeat'((conv=>whnf);first|refine Ac ?_|refine Aa hE rfl ?_|exact zE))
theorem yG (k:Int):Ab Tryz.prog 227 [iv k] (fun r=>r=bv (k==22||k==26)):=by
 refine acQ 9 Tryz.func227 rfl rfl fun _ _ _=> ?_
 (repeat'((conv=>whnf);first|refine Ac ?_|refine Ae ?_|(refine Ai (fun hc hcP=> ?_) (fun hc hcP=> ?_)<;>try(exfalso;omega))));(all_goals(conv=>whnf))
 all_goals(refine A9 ?_;(repeat'(first|refine And.intro ?_ ?_|exact rfl));(all_goals(conv=>whnf)))
 all_goals(simp_all)
def Gj (b:List UInt8):Bool:=aT b&&(!(Rw b==[])&& !(Nx b==22||Nx b==26))
def KD (b:List UInt8):AV:=if Gj b=true then .tup [txA (Nx b) (Rw b),bv true] else .tup [txA 0 [],bv false]
theorem Xi (b:List UInt8) (hb:b.length≤1000000):Ab Tryz.prog 192 [.d (Af false b)] (fun r=>r=KD b):=by
 have hS:=aU b hb
 have h1:=yG (Nx b)
 unfold KD
 have gs:Gj b=(aT b&&(!(Rw b==[])&& !(Nx b==22||Nx b==26))):=rfl
 generalize Gj b=q at gs⊢
 generalize Nx b=K at hS h1 gs⊢
 generalize Rw b=V at hS gs⊢
 generalize aT b=Z at hS gs
 generalize (K==22||K==26)=O at h1 gs
 cases Z
 ·subst gs
  refine acQ 27 Tryz.func192 rfl rfl fun _ _ _=> ?_
  (repeat'((conv=>whnf);first|refine Ac ?_|refine Aa hS Lh ?_|exact zE))
 ·cases hv:(V==[])
  ·rw[hv] at gs
   cases O
   all_goals
    subst gs
    refine acQ 27 Tryz.func192 rfl rfl fun _ _ _=> ?_
    (repeat'((conv=>whnf);first|refine Ac ?_|refine Ae ?_|refine Ay asP ?_|refine Aa hS Lh ?_|refine Aa h1 rfl ?_|exact zE))
  ·rw[hv] at gs
   subst gs
   refine acQ 27 Tryz.func192 rfl rfl fun _ _ _=> ?_
   (repeat'((conv=>whnf);first|refine Ac ?_|refine Ae ?_|refine Aw asP ?_|refine Aa hS Lh ?_|exact zE))
def atV (a:Att):Bool:=E4 a.oid&&Ek a.val
theorem Tp (b:List UInt8):Ek b=(Kz b==0):=rfl
theorem Dj {p:Prop} (h:p:=by first|rfl|(simp only[AV.gives,AV.ren,AV.give,D.un,D.uns,Aj,Am,List.nil_append,List.append_nil,List.cons_append,Av,Er,Es,Bn,A8,Cj];first|done|rfl)):p:=h
theorem fL (a:Att) (ho:a.oid.length≤4000000) (hv:a.val.length≤1000000000):Ab Tryz.prog 95 [atA a] (fun r=>r=bv (atV a)):=by
 have hV:=aF a.oid ho
 unfold atV
 rw[Tp]
 generalize E4 a.oid=V at hV⊢
 rcases V3 a.val hv with⟨h1,ta,tq,tm,tk,tl,tcs,hT⟩|⟨h1,hT⟩
 ·rw[h1]
  cases V
  all_goals
   refine acQ 19 Tryz.func95 rfl rfl fun _ _ _=> ?_
   (repeat'((conv=>whnf);first|refine Ac ?_|refine Ae ?_|refine Aa hT Dj ?_|refine Aa hV rfl ?_|exact zE))
 ·generalize Mw a.val=tO at hT
  generalize Kz a.val=tc at hT h1⊢
  have g1:((tc:Int)==0)=false:=by rw[beq_eq_false_iff_ne];omega
  have g2:(tc==0)=false:=by rw[beq_eq_false_iff_ne];exact h1
  cases V
  all_goals
   refine acQ 19 Tryz.func95 rfl rfl fun _ _ _=> ?_
   (repeat'((conv=>whnf);first|refine Ac ?_|refine Ae ?_|refine Aa hT Dj ?_|refine Aa hV rfl ?_));(all_goals(conv=>whnf))
   all_goals(refine A9 ?_;(repeat'(first|exact Bm _|refine And.intro ?_ ?_|exact rfl));(all_goals(conv=>whnf)))
  all_goals(rw[g1,g2];try rfl)
def atE (a:Att):List UInt8:=Ah 0 16 true (Ah 0 6 false (Bo a.oid)++a.val)
theorem Tq {a:Att} (h:atV a=true):E4 a.oid=true∧Ek a.val=true:=by
 unfold atV at h;simpa using h
theorem Xj (a:Att) (ho:a.oid.length≤4000000) (hv:a.val.length≤100000000):Ab Tryz.prog 62 [atA a] (fun r=>r=if atV a=true then .tup [A7 0 5 (atE a),iv 0] else .tup [A3,iv 8]):=by
 have hV:=fL a ho (by omega)
 by_cases h:atV a=true
 ·rw[if_pos h]
  rw[h] at hV
  have hE:=Vo a.oid ho
  rw[(Rp a.oid).1 (Tq h).1] at hE
  have k1:=Fa a.oid
  have hW:=D2 0 6 false (Bo a.oid) (by omega) (by omega) (by omega)
  have k2:=Ar 0 6 false (Bo a.oid) (by omega)
  have hQ:=P3 [Ah 0 6 false (Bo a.oid),a.val] (by simp;omega) (by simp)
  rw[show Ah 0 16 true [Ah 0 6 false (Bo a.oid),a.val].flatten=atE a by simp[atE]] at hQ
  refine acQ 35 Tryz.func62 rfl rfl fun _ _ _=> ?_
  (repeat'((conv=>whnf);first|refine Ae ?_|refine Aa hV Dj ?_|refine Aa hE rfl ?_|refine Aa hW Dj ?_|refine Aa hQ Dj ?_|exact zE))
 ·rw[if_neg h]
  rw[show atV a=false by simpa using h] at hV
  refine acQ 35 Tryz.func62 rfl rfl fun _ _ _=> ?_
  (repeat'((conv=>whnf);first|refine Ac ?_|refine Aa hV Dj ?_|exact zE))
def atO (b:List UInt8):Option Att:=match fG b with
 |some (id,s)=>if Ek s=true then some ⟨id,s⟩ else none
 |none=>none
def V5 (b:List UInt8) (r:LR):Nat×Nat:=if r.code≠0 then(r.code,r.off) else match r.l with
 |[x,y]=>if x.isB 0 6 false=false then(3,x.at') else if odC (bod b x)≠0 then(odC (bod b x),x.body) else(Kz (elO b y),y.at'+Mw (elO b y))
 |_::_::z::_=>(2,z.at')
 |_=>(1,b.length)
def atU (a:Att):List D:=[sD a.oid,Af true a.val]
def atR (o:Option Att) (e:Nat×Nat):AV:=match o with
 |some a=> .tup [.agg [sx a.oid,.d (Af true a.val)],erA 0 0]
 |none=> .tup [.agg [sx [],A3],erA e.1 e.2]
theorem Gk (c o:Int):Ab Tryz.prog 200 [iv c,iv o] (fun r=>r= .tup [.agg [sx [],A3],.agg [iv c,iv o]]):=by
 refine acQ 10 Tryz.func200 rfl rfl fun _ _ _=> ?_
 (all_goals(conv=>whnf))
 all_goals exact zE
theorem fM (b:List UInt8) (hb:b.length≤800000):Ab Tryz.prog 147 [.d (Af false b)] (fun r=>r=atR (atO b) (V5 b (Bc b 0 16))):=by
 have hP:=Kp b 0 16 (by omega)
 have hin:=fun x=>Ey (b:=b) (c:=0) (n:=16) (x:=x)
 have hO:atO b=match fF b (Bc b 0 16) with
  |some (id,s)=>if Ek s=true then some ⟨id,s⟩ else none
  |none=>none:=rfl
 generalize Bc b 0 16=r at hP hin hO⊢
 by_cases h1:r.code≠0
 ·rw[aP (.inl h1)] at hO
  rw[hO]
  have hF:=Gk r.code r.off
  rw[lrA,if_pos h1] at hP
  have gc:((r.code:Int) !=0)=true:=by rw[bne_iff_ne];omega
  rw[V5,if_pos h1]
  generalize r.code=c at hP gc hF
  generalize r.off=o at hP hF
  refine acQ 127 Tryz.func147 rfl rfl fun _ _ _=> ?_
  (repeat'((conv=>whnf);first|refine Aw asP ?_|refine Aa hP Dj ?_|refine Aa hF rfl ?_|exact zE))
 rw[lrA,if_neg h1] at hP
 rw[V5,if_neg h1]
 obtain⟨l,c,o⟩:=r
 obtain rfl:c=0:=Decidable.not_not.1 h1
 match l with
 |[]=>
  have e:atO b=none:=hO
  rw[e]
  have hF:=Gk 1 b.length
  refine acQ 127 Tryz.func147 rfl rfl fun _ _ _=> ?_
  (repeat'((conv=>whnf);first|refine Ac ?_|refine Ae ?_|refine Aa hP Dj ?_|refine Aa hF rfl ?_|exact zE))
 |[x]=>
  have e:atO b=none:=hO
  rw[e]
  have hF:=Gk 1 b.length
  refine acQ 127 Tryz.func147 rfl rfl fun _ _ _=> ?_
  (repeat'((conv=>whnf);first|refine Ac ?_|refine Ae ?_|refine Aa hP Dj ?_|refine Aa hF rfl ?_|exact zE))
 |x::y::z::q=>
  have e:atO b=none:=hO
  rw[e]
  have hF:=Gk 2 z.at'
  have g2:(x::y::z::q:List El)[2]?=some z:=rfl
  refine acQ 127 Tryz.func147 rfl rfl fun _ _ _=> ?_
  (repeat'((conv=>whnf);first|refine Ae ?_|refine Aa hP Dj ?_|refine NIdx.tab (fun _=>rfl) g2 ?_|refine Aa hF rfl ?_|(refine NBr.mk (fun hc=> ?_) (fun hc=> ?_)<;>(have hcP:=hc;(try simp only[Ag,decide_eq_true_eq,decide_eq_false_iff_not] at hcP)<;>first|(exfalso;omega)|skip))|exact zE))
 |[x,y]=>
  obtain⟨x1,x2,x3⟩:=hin x (by simp)
  obtain⟨y1,y2,y3⟩:=hin y (by simp)
  have hI:=Rk x 0 6 false
  have hlb:(bod b x).length≤b.length:=by unfold bod;rw[Ao,Ax];omega
  have hly:(elO b y).length≤b.length:=by unfold elO;rw[Ao,Ax];omega
  have hD:=O1 (bod b x) (by omega)
  have hC:=Ko (elO b y) (by omega)
  have hT:=V3 (elO b y) (by omega)
  have hto:=fK (elO b y)
  have hop:=Tp (elO b y)
  have g0:([x,y]:List El)[0]?=some x:=rfl
  have g1:([x,y]:List El)[1]?=some y:=rfl
  have hO':atO b=match(if x.isB 0 6 false=true∧odC (bod b x)=0 then some (odT (bod b x),elO b y) else none:Option (List UInt8×List UInt8)) with
   |some (id,s)=>if Ek s=true then some ⟨id,s⟩ else none
   |none=>none:=hO
  show Ab _ _ _ (fun r=>r=atR (atO b) (if x.isB 0 6 false=false then(3,x.at') else if odC (bod b x)≠0 then(odC (bod b x),x.body) else(Kz (elO b y),y.at'+Mw (elO b y))))
  cases hi:x.isB 0 6 false
  ·rw[hi] at hI hO'
   rw[if_neg (by simp)] at hO'
   rw[hO',if_pos rfl]
   have hF:=Gk 3 x.at'
   refine acQ 127 Tryz.func147 rfl rfl fun _ _ _=> ?_
   (repeat'((conv=>whnf);first|refine Ac ?_|refine Ae ?_|refine Aa hP Dj ?_|refine NIdx.tab (fun _=>rfl) g0 ?_|refine Aa hI rfl ?_|refine Aa hF rfl ?_|exact zE))
  rw[hi] at hI hO'
  rw[if_neg (by simp)]
  by_cases h3:odC (bod b x)=0
  ·rw[if_pos ⟨rfl,h3⟩] at hO'
   rw[if_neg (by omega)]
   have hO2:atO b=if Ek (elO b y)=true then some ⟨odT (bod b x),elO b y⟩ else none:=hO'
   rw[Nw,h3] at hD
   rw[hop] at hO2
   unfold bod at hD hlb hO2
   generalize odT ((b.drop x.body).take (x.stop-x.body))=ot at hD hO2
   unfold elO at hC hT hto hly hO2⊢
   rcases hT with⟨h4,ta,tq,tm,tk,tl,tcs,hT⟩|⟨h4,hT⟩
   ·rw[h4] at hO2
    rw[if_pos (by rfl)] at hO2
    rw[hO2]
    refine acQ 127 Tryz.func147 rfl rfl fun _ _ _=> ?_
    (repeat'((conv=>whnf);first|refine Ae ?_|refine Aa hP Dj ?_|refine NIdx.tab (fun _=>rfl) g0 ?_|refine NIdx.tab (fun _=>rfl) g1 ?_|refine Aa hI rfl ?_|refine NSl.slice (x.body) (x.stop) ?_|refine NSl.slice (y.at') (y.stop) ?_|refine Aa hD Dj ?_|refine Aa hC Dj ?_|refine Aa hT Dj ?_|refine zF ?_|exact zE))
   ·rw[if_neg (by rw[beq_iff_eq];exact h4)] at hO2
    rw[hO2]
    have gd:((Kz ((b.drop y.at').take (y.stop-y.at')):Int) !=0)=true:=by rw[bne_iff_ne];omega
    have hF:=Gk (Kz ((b.drop y.at').take (y.stop-y.at'))) ((y.at'+Mw ((b.drop y.at').take (y.stop-y.at')):Nat):Int)
    generalize Mw ((b.drop y.at').take (y.stop-y.at'))=tO at hT hto hF⊢
    generalize Kz ((b.drop y.at').take (y.stop-y.at'))=tC at hT h4 gd hF⊢
    refine acQ 127 Tryz.func147 rfl rfl fun _ _ _=> ?_
    (repeat'((conv=>whnf);first|refine Ae ?_|refine Aw asP ?_|refine Aa hP Dj ?_|refine NIdx.tab (fun _=>rfl) g0 ?_|refine NIdx.tab (fun _=>rfl) g1 ?_|refine Aa hI rfl ?_|refine NSl.slice (x.body) (x.stop) ?_|refine NSl.slice (y.at') (y.stop) ?_|refine Aa hD Dj ?_|refine Aa hC Dj ?_|refine Aa hT Dj ?_|refine NInt.as (((y.at'+tO:Nat):Int)) ((by rw[IntWalk.i64_in _ (by omega)];omega)) ?_|refine Aa hF rfl ?_|refine zF ?_|exact zE))
  ·rw[if_neg (fun h=>h3 h.2)] at hO'
   rw[hO',if_pos h3]
   have gd:((odC (bod b x):Int) !=0)=true:=by rw[bne_iff_ne];omega
   have hF:=Gk (odC (bod b x)) x.body
   rw[Nw] at hD
   unfold bod at hD gd hF⊢
   generalize odC ((b.drop x.body).take (x.stop-x.body))=oc at hD gd hF⊢
   generalize odT ((b.drop x.body).take (x.stop-x.body))=ot at hD
   refine acQ 127 Tryz.func147 rfl rfl fun _ _ _=> ?_
   (repeat'((conv=>whnf);first|refine Ae ?_|refine Aw asP ?_|refine Aa hP Dj ?_|refine NIdx.tab (fun _=>rfl) g0 ?_|refine Aa hI rfl ?_|refine NSl.slice (x.body) (x.stop) ?_|refine Aa hD Dj ?_|refine Aa hF rfl ?_|refine zF ?_|exact zE))
theorem fN (b:List UInt8):atO b=none→(V5 b (Bc b 0 16)).1≠0∧(V5 b (Bc b 0 16)).2≤b.length:=by
 have hin:=fun x=>Ey (b:=b) (c:=0) (n:=16) (x:=x)
 have hoff:=I7 b 0 16
 have hO:atO b=match fF b (Bc b 0 16) with
  |some (id,s)=>if Ek s=true then some ⟨id,s⟩ else none
  |none=>none:=rfl
 rw[hO]
 generalize Bc b 0 16=r at hin hoff⊢
 intro h
 unfold V5
 by_cases h1:r.code≠0
 ·rw[if_pos h1];exact⟨h1,hoff⟩
 rw[if_neg h1]
 obtain⟨l,c,o⟩:=r
 obtain rfl:c=0:=Decidable.not_not.1 h1
 match l with
 |[]=>exact⟨by simp,Nat.le_refl _⟩
 |[x]=>exact⟨by simp,Nat.le_refl _⟩
 |x::y::z::q=>
  have:=hin z (by simp)
  exact⟨by simp,by show z.at'≤_;omega⟩
 |[x,y]=>
  have hx:=hin x (by simp)
  have hy:=hin y (by simp)
  have hl:(elO b y).length≤y.stop-y.at':=by unfold elO;rw[Ao];omega
  have hto:=fK (elO b y)
  have h':(match(if x.isB 0 6 false=true∧odC (bod b x)=0 then some (odT (bod b x),elO b y) else none:Option (List UInt8×List UInt8)) with
   |some (id,s)=>if Ek s=true then some (⟨id,s⟩:Att) else none
   |none=>none)=none:=h
  simp only
  cases hi:x.isB 0 6 false
  ·rw[if_pos rfl];exact⟨by simp,by show x.at'≤_;omega⟩
  rw[if_neg (by simp)]
  by_cases h3:odC (bod b x)=0
  ·rw[if_neg (by omega)]
   rw[if_pos ⟨hi,h3⟩] at h'
   have h2:(if Ek (elO b y)=true then some (⟨odT (bod b x),elO b y⟩:Att) else none)=none:=h'
   rw[Tp] at h2
   refine⟨fun e=> ?_,by show y.at'+Mw (elO b y)≤_;omega⟩
   have e:Kz (elO b y)=0:=e
   rw[e,if_pos (by rfl)] at h2;cases h2
  ·rw[if_pos h3];exact⟨h3,by show x.body≤_;omega⟩
def Ed (r:List Att):Bool:= !r.isEmpty&&(r.all atV&&G2 (r.map atE))
def Cv (r:List Att):List UInt8:=Ah 0 17 true (r.map atE).flatten
def nmV (n:List (List Att)):Bool:=n.all Ed
def nmE (n:List (List Att)):List UInt8:=Ah 0 16 true (n.map Cv).flatten
theorem Nq {r:List Att} (h:Ed r=true):r≠[]∧r.all atV=true∧G2 (r.map atE)=true:=by
 unfold Ed at h
 simp only[At] at h
 exact⟨by rintro rfl;simp at h,h.2.1,h.2.2⟩
theorem aV {α:Type} {f:α→Bool} {l:List α} {i:Nat} {x:α} (h:l[i]?=some x) (hf:f x=false):l.all f=false:=by
 cases hh:l.all f with
 |false=>rfl
 |true=>rw[List.all_eq_true.1 hh x (Bi h)] at hf;cases hf
theorem K1 {p:Prop} (h:p:=by first|rfl|(simp only[AV.gives,AV.ren,AV.give,D.un,D.uns,Aj,Am,List.nil_append,List.append_nil,List.cons_append,List.map_cons,List.map_nil,AV.frzs,AV.frz,List.drop_zero,Av,Er,Es,Bn,A8,Cj,Bw,Bd];first|done|rfl)):p:=h
theorem lJ (r:List Att) (i:Nat) {x:Att} (hg:r[i]?=some x) (hx:x.oid.length≤4000000∧x.val.length≤100000000):Ab Tryz.prog 61 [iv i,.d (.cp false [He r])] (fun r=>r=if atV x=true then .tup [A7 0 5 (atE x),iv 0] else .tup [A3,iv 8]):=by
 have hM:=Xj x hx.1 hx.2
 by_cases h:atV x=true
 all_goals
  first|rw[if_pos h] at hM⊢ |rw[if_neg h] at hM⊢
  refine acQ 12 Tryz.func61 rfl rfl fun _ _ _=> ?_
  (repeat'((conv=>whnf);first|refine NIdx.tab (fun _=>rfl) hg ?_|refine Aa hM K1 ?_|exact zE))
theorem aW (r:List Att) (hl:r.length≤100000) (hs:∀x∈r,x.oid.length≤4000000∧x.val.length≤100000000) (hq:(r.map atE).flatten.length≤100000000) (hp:∀x∈r,(atE x).length≤100000000):Ab Tryz.prog 60 [.agg [iv 17,bv true],iv r.length,.cl 61 [] [.d (.cp false [He r])]] (fun q=>q=if r.all atV=true∧G2 (r.map atE)=true then .tup [A7 0 5 (Ah 0 17 true (r.map atE).flatten),iv 0] else .tup [A3,iv 8]):=by
 have hW:=P2 0 17 true (r.map atE) (by omega) (by omega) (by omega) (by rw[List.length_map];omega)
 have hO2:=Sm (r.map atE) (by rw[List.length_map];omega) (fun p hp0=>by
  obtain⟨x,hx,rfl⟩:=List.mem_map.1 hp0
  have:=hp x hx;omega)
 refine acQ 43 Tryz.func60 rfl rfl fun _ _ _=> ?_
 (all_goals(conv=>whnf))
 refine Bb [.s 8 1 33] (fun i:Nat=>i≤r.length∧(r.take i).all atV=true) (fun i=>r.length-i) (fun i=>⟨[(2,.cl 61 [] [.d (.cp false [He r])]),(3,.ptr 3 0),(8,Bw 8 1 33 Du ((r.take i).map atE)),(12,iv r.length),(13,iv i)],[(3,[iv 17,bv true])],[(8,(((r.take i).map atE).length,1,33))]⟩) 0 ⟨by omega,rfl⟩ leQ ?_
 rintro i ⟨hi,ha⟩
 have hml:((r.take i).map atE).length≤100000:=by rw[List.length_map,Ao];omega
 by_cases hik:i<r.length
 ·have gi:decide ((i:Int)<r.length)=true:=decide_eq_true (by omega)
  obtain⟨x,hg⟩:∃p,r[i]?=some p:=⟨_,An hik⟩
  have hO:=lJ r i hg (hs x (Bi hg))
  cases hv:atV x
  ·rw[hv,if_neg (by simp)] at hO
   rw[if_neg (by rintro⟨h,-⟩;rw[aV hg hv] at h;cases h)]
   (repeat'((conv=>whnf);first|refine Ac ?_|refine Aw asP ?_|refine Aa hO K1 ?_|exact zE))
  ·rw[hv,if_pos rfl] at hO
   have hs':=G7 atE hg
   (repeat'((conv=>whnf);first|refine Ae ?_|refine Aw asP ?_|refine Aa hO K1 ?_|refine A4 Du (atE x) ?_|(with_reducible refine NInt.i64 ?_)));(all_goals(conv=>whnf))
   refine⟨i+1,⟨by omega,Is atV hg hv ha⟩,by omega,?_⟩
   rw[hs']
   exact leQ
 ·have gi:decide ((i:Int)<r.length)=false:=decide_eq_false (by omega)
  obtain rfl:i=r.length:=by omega
  rw[List.take_length] at ha⊢
  cases ho:G2 (r.map atE)
  ·rw[ho] at hO2
   rw[if_neg (by rintro⟨-,h⟩;cases h)]
   (repeat'((conv=>whnf);first|refine Ac ?_|refine Ay asP ?_|refine Aa hO2 K1 ?_|exact zE))
  ·rw[ho] at hO2
   rw[if_pos ⟨ha,rfl⟩]
   (repeat'((conv=>whnf);first|refine Ac ?_|refine Ae ?_|refine Ay asP ?_|refine Aa hO2 K1 ?_|refine Aa hW K1 ?_|exact zE))
structure Att.sm (a:Att):Prop where
 o:a.oid.length≤3000000
 v:a.val.length≤3000000
theorem Ts {a:Att} (h:a.sm):(atE a).length≤a.oid.length*5+a.val.length+20:=by
 have h1:=Fa a.oid
 have:=h.o
 have:=h.v
 have h2:=Ar 0 6 false (Bo a.oid) (by omega)
 have h3:=Ar 0 16 true (Ah 0 6 false (Bo a.oid)++a.val) (by rw[Ak];omega)
 rw[Ak] at h3
 have e:(atE a).length=(Ah 0 16 true (Ah 0 6 false (Bo a.oid)++a.val)).length:=rfl
 omega
structure rdnZ (r:List Att):Prop where
 l:r.length≤100000
 a:∀a∈r,a.sm
 e:(r.map atE).flatten.length≤90000000
structure nmZ (n:List (List Att)):Prop where
 l:n.length≤100000
 r:∀r∈n,rdnZ r
 e:(n.map Cv).flatten.length≤90000000
theorem O6 (r:List Att) (hz:rdnZ r):Ab Tryz.prog 27 [.d (He r)] (fun q=>q=if Ed r=true then .tup [A7 0 5 (Cv r),iv 0] else .tup [A3,iv 8]):=by
 obtain⟨hl,hs,hq⟩:=hz
 have hS:=aW r (by omega) (fun a ha=>by have:=(hs a ha).o;have:=(hs a ha).v;exact⟨by omega,by omega⟩) (by omega) (fun a ha=>by have:=Ts (hs a ha);have:=(hs a ha).o;have:=(hs a ha).v;omega)
 cases r with
 |nil=>
  show Ab _ _ _ (fun q=>q= .tup [A3,iv 8])
  refine acQ 17 Tryz.func27 rfl rfl fun _ _ _=> ?_
  (repeat'((conv=>whnf);refine Ac ?_));(all_goals(conv=>whnf))
  all_goals exact zE
 |cons a q=>
  have gl:(((a::q).length:Int)==0)=false:=by rw[beq_eq_false_iff_ne,Ag];omega
  by_cases h:Ed (a::q)=true
  ·rw[if_pos h]
   rw[if_pos (Nq h).2] at hS
   unfold Cv
   generalize (a::q)=r at hS gl
   refine acQ 17 Tryz.func27 rfl rfl fun _ _ _=> ?_
   (repeat'((conv=>whnf);first|refine Ay asP ?_|refine Aa hS K1 ?_|exact zE))
  ·rw[if_neg h]
   rw[if_neg (fun k=>h (by unfold Ed;rw[k.1,k.2];rfl))] at hS
   generalize (a::q)=r at hS gl
   refine acQ 17 Tryz.func27 rfl rfl fun _ _ _=> ?_
   (repeat'((conv=>whnf);first|refine Ay asP ?_|refine Aa hS K1 ?_|exact zE))
theorem yH {r:List Att} (hz:rdnZ r):(Cv r).length≤(r.map atE).flatten.length+6:=by
 have hq:=hz.e
 have:=Ar 0 17 true (r.map atE).flatten (by omega)
 unfold Cv;omega
theorem sT (r:List (List Att)) (i:Nat) {x:List Att} (hg:r[i]?=some x) (hx:rdnZ x):Ab Tryz.prog 132 [iv i,.d (.cp false [Hf r])] (fun r=>r=if Ed x=true then .tup [A7 0 5 (Cv x),iv 0] else .tup [A3,iv 8]):=by
 have hM:=O6 x hx
 by_cases h:Ed x=true
 all_goals
  first|rw[if_pos h] at hM⊢ |rw[if_neg h] at hM⊢
  refine acQ 12 Tryz.func132 rfl rfl fun _ _ _=> ?_
  (repeat'((conv=>whnf);first|refine NIdx.tab (fun _=>rfl) hg ?_|refine Aa hM K1 ?_|exact zE))
theorem fO (r:List (List Att)) (hl:r.length≤100000) (hs:∀x∈r,rdnZ x) (hq:(r.map Cv).flatten.length≤100000000) (_:∀x∈r,(Cv x).length≤100000000):Ab Tryz.prog 60 [.agg [iv 16,bv false],iv r.length,.cl 132 [] [.d (.cp false [Hf r])]] (fun q=>q=if r.all Ed=true then .tup [A7 0 5 (Ah 0 16 true (r.map Cv).flatten),iv 0] else .tup [A3,iv 8]):=by
 have hW:=P2 0 16 true (r.map Cv) (by omega) (by omega) (by omega) (by rw[List.length_map];omega)
 refine acQ 43 Tryz.func60 rfl rfl fun _ _ _=> ?_
 (all_goals(conv=>whnf))
 refine Bb [.s 8 1 33] (fun i:Nat=>i≤r.length∧(r.take i).all Ed=true) (fun i=>r.length-i) (fun i=>⟨[(2,.cl 132 [] [.d (.cp false [Hf r])]),(3,.ptr 3 0),(8,Bw 8 1 33 Du ((r.take i).map Cv)),(12,iv r.length),(13,iv i)],[(3,[iv 16,bv false])],[(8,(((r.take i).map Cv).length,1,33))]⟩) 0 ⟨by omega,rfl⟩ leQ ?_
 rintro i ⟨hi,ha⟩
 have hml:((r.take i).map Cv).length≤100000:=by rw[List.length_map,Ao];omega
 by_cases hik:i<r.length
 ·have gi:decide ((i:Int)<r.length)=true:=decide_eq_true (by omega)
  obtain⟨x,hg⟩:∃p,r[i]?=some p:=⟨_,An hik⟩
  have hO:=sT r i hg (hs x (Bi hg))
  cases hv:Ed x
  ·rw[hv,if_neg (by simp)] at hO
   rw[if_neg (by rintro h;rw[aV hg hv] at h;cases h)]
   (repeat'((conv=>whnf);first|refine Ac ?_|refine Aw asP ?_|refine Aa hO K1 ?_|exact zE))
  ·rw[hv,if_pos rfl] at hO
   have hs':=G7 Cv hg
   (repeat'((conv=>whnf);first|refine Ae ?_|refine Aw asP ?_|refine Aa hO K1 ?_|refine A4 Du (Cv x) ?_|(with_reducible refine NInt.i64 ?_)));(all_goals(conv=>whnf))
   refine⟨i+1,⟨by omega,Is Ed hg hv ha⟩,by omega,?_⟩
   rw[hs']
   exact leQ
 ·have gi:decide ((i:Int)<r.length)=false:=decide_eq_false (by omega)
  obtain rfl:i=r.length:=by omega
  rw[List.take_length] at ha⊢
  rw[if_pos ha]
  (repeat'((conv=>whnf);first|refine Ae ?_|refine Ay asP ?_|refine Aa hW K1 ?_|exact zE))
theorem sU (n:List (List Att)) (h:nmZ n):Ab Tryz.prog 100 [.d (Hf n)] (fun q=>q=if nmV n=true then .tup [A7 0 5 (nmE n),iv 0] else .tup [A3,iv 8]):=by
 have hq:=h.e
 have hl:=h.l
 have hS:=fO n (by omega) h.r (by omega) (fun r hr=>by
  have:=H3 (p:=Cv r) (l:=n.map Cv) (List.mem_map_of_mem hr)
  omega)
 unfold nmV nmE
 by_cases hv:n.all Ed=true
 all_goals
  first|rw[if_pos hv] at hS⊢ |rw[if_neg hv] at hS⊢
  refine acQ 14 Tryz.func100 rfl rfl fun _ _ _=> ?_
  (repeat'((conv=>whnf);refine Aa hS K1 ?_));(all_goals(conv=>whnf))
  all_goals exact zE
theorem yI (l:List (List UInt8)):D.uns (l.flatMap I4)=l.flatMap I4:=by
 induction l with
 |nil=>rfl
 |cons p r ih=>
  show D.un (Af false p)::D.uns (r.flatMap I4)=_
  rw[Aj,ih];rfl
def Li (r:List Att):D:=Fp true 2 atU r
theorem nV (l:List Att):D.uns (l.flatMap atU)=l.flatMap atC:=by
 induction l with
 |nil=>rfl
 |cons m r ih=>
  show D.un (sD m.oid)::D.un (Af true m.val)::D.uns (r.flatMap atU)=_
  rw[Aj,ih];rfl
theorem B6 (r:List Att):(Li r).un=He r:=by
 show D.sl false r.length 2 (D.uns (r.flatMap atU))=_
 rw[nV];rfl
def Su (r:List Att):List D:=[Li r]
def Sv (n:List (List Att)):D:=Fp true 1 Su n
theorem Yq (n:List (List Att)):D.uns (n.flatMap Su)=n.flatMap xE:=by
 induction n with
 |nil=>rfl
 |cons m r ih=>
  show D.un (Li m)::D.uns (r.flatMap Su)=_
  rw[B6,ih];rfl
theorem Bk (n:List (List Att)):(Sv n).un=Hf n:=by
 show D.sl false n.length 1 (D.uns (n.flatMap Su))=_
 rw[Yq];rfl
def fP (b:List UInt8):Nat×Nat:=V5 b (Bc b 0 16)
def S2 (b:List UInt8):List El→List (List UInt8)→List Att→Option (List Att)×Nat×Nat
 |[],_,out=>(some out,0,0)
 |x::r,ps,out=>match atO (elO b x) with
  |none=>(none,(fP (elO b x)).1,x.at'+(fP (elO b x)).2)
  |some a=>if G2 (ps++[elO b x])=true then S2 b r (ps++[elO b x]) (out++[a]) else(none,7,x.at')
def yJ (b:List UInt8) (r:LR):Option (List Att)×Nat×Nat:=if r.code≠0 then(none,r.code,r.off) else if r.l=[] then(none,1,b.length) else S2 b r.l [] []
def I8 (b:List UInt8):Option (List Att)×Nat×Nat:=yJ b (Bc b 0 17)
def OH:Option (List Att)×Nat×Nat→AV
 |(some r,_,_)=> .tup [.d (Li r),erA 0 0]
 |(none,c,o)=> .tup [A3,erA c o]
theorem Tt (b:List UInt8) (x:El):(elO b x).length≤b.length:=by unfold elO;rw[Ao,Ax];omega
theorem V6 (b:List UInt8) (x:El):(elO b x).length≤x.stop-x.at':=by unfold elO;rw[Ao];omega
theorem H8 {p:Prop} (h:p:=by first|rfl|(simp only[AV.gives,AV.ren,AV.give,D.un,D.uns,Aj,Am,List.nil_append,List.append_nil,List.cons_append,Av,A6,Er,Es,Bn,A8,Cj,Bw,Bd,yI];first|done|rfl)):p:=h
theorem V7 (b:List UInt8) (hb:b.length≤800000):Ab Tryz.prog 107 [.d (Af false b)] (fun r=>r=OH (I8 b)):=by
 have hP:=Kp b 0 17 (by omega)
 have hin:=fun x=>Ey (b:=b) (c:=0) (n:=17) (x:=x)
 have hcn:=Lf b 0 17
 unfold I8
 generalize Bc b 0 17=R at hP hin hcn⊢
 unfold yJ
 by_cases h1:R.code≠0
 ·rw[if_pos h1]
  rw[lrA,if_pos h1] at hP
  have gc:((R.code:Int) !=0)=true:=by rw[bne_iff_ne];omega
  generalize R.code=c at hP gc
  generalize R.off=o at hP
  show Ab _ _ _ (fun r=>r= .tup [A3,erA c o])
  refine acQ 76 Tryz.func107 rfl rfl fun _ _ _=> ?_
  (repeat'((conv=>whnf);first|refine Aw asP ?_|refine Aa hP H8 ?_|refine zF ?_|exact zE))
 rw[if_neg h1]
 rw[lrA,if_neg h1] at hP
 generalize R.l=l at hP hin hcn⊢
 by_cases hl:l=[]
 ·subst hl
  show Ab _ _ _ (fun r=>r= .tup [A3,erA 1 b.length])
  refine acQ 76 Tryz.func107 rfl rfl fun _ _ _=> ?_
  (repeat'((conv=>whnf);first|refine Ac ?_|refine Ae ?_|refine Aa hP H8 ?_|exact zE))
 rw[if_neg hl]
 have gl:((l.length:Int)==0)=false:=by rw[beq_eq_false_iff_ne];intro h;exact hl (List.eq_nil_of_length_eq_zero (by omega))
 generalize hQ:S2 b l [] []=q
 refine acQ 76 Tryz.func107 rfl rfl fun _ _ _=> ?_
 (repeat'((conv=>whnf);first|refine Ae ?_|refine Ay asP ?_|refine Aa hP H8 ?_));(all_goals(conv=>whnf))
 refine Bb [.s 6 2 101,.s 7 1 33] (fun z:Nat×List (List UInt8)×List Att=>z.1≤l.length∧z.2.1.length≤z.1∧z.2.2.length≤z.1∧(∀p∈z.2.1,p.length≤b.length)∧q=S2 b (l.drop z.1) z.2.1 z.2.2) (fun z=>l.length-z.1) (fun z=>⟨[(0,.d (Af false b)),(3,.ptr 3 0),(6,Bw 6 2 101 atU z.2.2),(7,Bw 7 1 33 I4 z.2.1),(27,.d (kO l)),(28,iv l.length),(29,iv z.1)],[(3,[iv 0,iv 0])],[(6,(z.2.2.length,2,101)),(7,(z.2.1.length,1,33))]⟩) (0,[],[]) ⟨by simp,by simp,by simp,by simp,by rw[List.drop_zero];exact hQ.symm⟩ leQ ?_
 rintro⟨i,ps,out⟩ ⟨hi,hps,hou,hpl,he⟩
 simp only at hi hps hou hpl he
 by_cases hik:i<l.length
 ·have gi:decide ((i:Int)<l.length)=true:=decide_eq_true (by omega)
  obtain⟨x,hg⟩:∃p,l[i]?=some p:=⟨_,An hik⟩
  obtain⟨x1,x2,x3⟩:=hin x (Bi hg)
  have hel:=Tt b x
  have hle:=V6 b x
  have hA:=fM (elO b x) (by omega)
  have hAe:=fN (elO b x)
  rw[Rv hg,S2] at he
  have hA:Ab Tryz.prog 147 [.d (Af false (elO b x))] (fun r=>r=atR (atO (elO b x)) (fP (elO b x))):=hA
  have hAe:atO (elO b x)=none→(fP (elO b x)).1≠0∧(fP (elO b x)).2≤(elO b x).length:=hAe
  generalize fP (elO b x)=er at hA hAe he
  cases ho:atO (elO b x) with
  |none=>
   rw[ho] at hA he
   obtain⟨e1,e2⟩:=hAe ho
   obtain⟨ec,eo⟩:=er
   simp only at e1 e2 he
   subst he
   have gc:((ec:Int) !=0)=true:=by rw[bne_iff_ne];omega
   have hA:Ab Tryz.prog 147 [.d (Af false (elO b x))] (fun r=>r= .tup [.agg [sx [],A3],erA ec eo]):=hA
   unfold elO at hA e2
   (repeat'((conv=>whnf);first|refine Aw asP ?_|refine NIdx.tab (fun _=>rfl) hg ?_|refine NSl.slice (x.at') (x.stop) ?_|refine A4 I4 ((b.drop x.at').take (x.stop-x.at')) ?_|refine Aa hA H8 ?_|(with_reducible refine NInt.i64 ?_)|refine zF ?_|exact zE))
  |some a=>
   rw[ho] at hA he
   have hA:Ab Tryz.prog 147 [.d (Af false (elO b x))] (fun r=>r= .tup [.agg [sx a.oid,.d (Af true a.val)],erA 0 0]):=hA
   simp only at he
   have hOr:=Sm (ps++[elO b x]) (by rw[Ak,List.length_singleton];omega) (fun p hp=>by
    rcases List.mem_append.1 hp with h|h
    ·have:=hpl p h;omega
    ·rw[List.mem_singleton.1 h];omega)
   unfold elO at hA hOr he
   cases hor:G2 (ps++[(b.drop x.at').take (x.stop-x.at')])
   ·rw[hor] at hOr he
    rw[if_neg (by simp)] at he
    subst he
    (repeat'((conv=>whnf);first|refine Ac ?_|refine Ae ?_|refine Aw asP ?_|refine NIdx.tab (fun _=>rfl) hg ?_|refine NSl.slice (x.at') (x.stop) ?_|refine A4 I4 ((b.drop x.at').take (x.stop-x.at')) ?_|refine Aa hA H8 ?_|refine Aa hOr H8 ?_|refine zF ?_|exact zE))
   ·rw[hor] at hOr he
    rw[if_pos rfl] at he
    (repeat'((conv=>whnf);first|refine Ae ?_|refine Aw asP ?_|refine NIdx.tab (fun _=>rfl) hg ?_|refine NSl.slice (x.at') (x.stop) ?_|refine A4 I4 ((b.drop x.at').take (x.stop-x.at')) ?_|refine Aa hA H8 ?_|refine Aa hOr H8 ?_|refine A4 atU a ?_|(with_reducible refine NInt.i64 ?_)));(all_goals(conv=>whnf))
    refine⟨(i+1,ps++[(b.drop x.at').take (x.stop-x.at')],out++[a]),⟨by show i+1≤_;omega,by simp;omega,by simp;omega,fun p hp=> ?_,he⟩,by show l.length-(i+1)<l.length-i;omega,?_⟩
    ·rcases List.mem_append.1 hp with h|h
     ·exact hpl p h
     ·rw[List.mem_singleton.1 h];exact hel
    ·exact leQ
 ·have gi:decide ((i:Int)<l.length)=false:=decide_eq_false (by omega)
  obtain rfl:i=l.length:=by omega
  rw[List.drop_length,S2] at he
  subst he
  (repeat'((conv=>whnf);refine Ay asP ?_));(all_goals(conv=>whnf))
  all_goals exact zE
def nmL (b:List UInt8):List El→List (List Att)→Option (List (List Att))×Nat×Nat
 |[],out=>(some out,0,0)
 |x::r,out=>match I8 (elO b x) with
  |(none,c,o)=>(none,c,x.at'+o)
  |(some a,_,_)=>nmL b r (out++[a])
def nmQ (b:List UInt8) (r:LR):Option (List (List Att))×Nat×Nat:=if r.code≠0 then(none,r.code,r.off) else nmL b r.l []
def nmR (b:List UInt8):Option (List (List Att))×Nat×Nat:=nmQ b (Bc b 0 16)
def nmA:Option (List (List Att))×Nat×Nat→AV
 |(some r,_,_)=> .tup [.d (Sv r),erA 0 0]
 |(none,c,o)=> .tup [A3,erA c o]
theorem nW (b:List UInt8):∀(l:List El) (ps:List (List UInt8)) (out:List Att),(∀x∈l,x.at'≤x.stop∧x.stop≤b.length)→(S2 b l ps out).1=none→(S2 b l ps out).2.1≠0∧(S2 b l ps out).2.2≤b.length
 |[],_,_,_,h=>by cases h
 |x::r,ps,out,hx,h=>by
  have hle:=V6 b x
  have hAe:atO (elO b x)=none→(fP (elO b x)).1≠0∧(fP (elO b x)).2≤(elO b x).length:=fN (elO b x)
  have:=hx x (by simp)
  rw[S2] at h⊢
  cases ho:atO (elO b x) with
  |none=>obtain⟨e1,e2⟩:=hAe ho;exact⟨e1,by show x.at'+_≤_;omega⟩
  |some a=>
   rw[ho] at h
   simp only at h⊢
   by_cases hor:G2 (ps++[elO b x])=true
   ·rw[if_pos hor] at h⊢
    exact nW b r _ _ (fun y hy=>hx y (by simp[hy])) h
   ·rw[if_neg hor];exact⟨by simp,by show x.at'≤_;omega⟩
theorem aX (b:List UInt8) (h:(I8 b).1=none):(I8 b).2.1≠0∧(I8 b).2.2≤b.length:=by
 have hin:=fun x=>Ey (b:=b) (c:=0) (n:=17) (x:=x)
 have hoff:=I7 b 0 17
 unfold I8 at h⊢
 generalize Bc b 0 17=R at hin hoff h⊢
 unfold yJ at h⊢
 by_cases h1:R.code≠0
 ·rw[if_pos h1];exact⟨h1,hoff⟩
 rw[if_neg h1] at h⊢
 by_cases hl:R.l=[]
 ·rw[if_pos hl];exact⟨by simp,Nat.le_refl _⟩
 ·rw[if_neg hl] at h⊢
  exact nW b R.l [] [] (fun y hy=>by have:=hin y hy;omega) h
theorem sV (b:List UInt8) (hb:b.length≤800000):Ab Tryz.prog 191 [.d (Af false b)] (fun r=>r=nmA (nmR b)):=by
 have hP:=Kp b 0 16 (by omega)
 have hin:=fun x=>Ey (b:=b) (c:=0) (n:=16) (x:=x)
 have hcn:=Lf b 0 16
 unfold nmR
 generalize Bc b 0 16=R at hP hin hcn⊢
 unfold nmQ
 by_cases h1:R.code≠0
 ·rw[if_pos h1]
  rw[lrA,if_pos h1] at hP
  have gc:((R.code:Int) !=0)=true:=by rw[bne_iff_ne];omega
  generalize R.code=c at hP gc
  generalize R.off=o at hP
  show Ab _ _ _ (fun r=>r= .tup [A3,erA c o])
  refine acQ 54 Tryz.func191 rfl rfl fun _ _ _=> ?_
  (repeat'((conv=>whnf);first|refine Aw asP ?_|refine Aa hP H8 ?_|refine zF ?_|exact zE))
 rw[if_neg h1]
 rw[lrA,if_neg h1] at hP
 generalize R.l=l at hP hin hcn⊢
 generalize hQ:nmL b l []=q
 refine acQ 54 Tryz.func191 rfl rfl fun _ _ _=> ?_
 (repeat'((conv=>whnf);first|refine Ae ?_|refine Aa hP H8 ?_));(all_goals(conv=>whnf))
 refine Bb [.s 6 1 24] (fun z:Nat×List (List Att)=>z.1≤l.length∧z.2.length≤z.1∧q=nmL b (l.drop z.1) z.2) (fun z=>l.length-z.1) (fun z=>⟨[(0,.d (Af false b)),(3,.ptr 3 0),(6,Bw 6 1 24 Su z.2),(20,.d (kO l)),(21,iv l.length),(22,iv z.1)],[(3,[iv 0,iv 0])],[(6,(z.2.length,1,24))]⟩) (0,[]) ⟨by simp,by simp,by rw[List.drop_zero];exact hQ.symm⟩ leQ ?_
 rintro⟨i,out⟩ ⟨hi,hou,he⟩
 simp only at hi hou he
 by_cases hik:i<l.length
 ·have gi:decide ((i:Int)<l.length)=true:=decide_eq_true (by omega)
  obtain⟨x,hg⟩:∃p,l[i]?=some p:=⟨_,An hik⟩
  obtain⟨x1,x2,x3⟩:=hin x (Bi hg)
  have hel:=Tt b x
  have hle:=V6 b x
  have hA:=V7 (elO b x) (by omega)
  have hAe:=aX (elO b x)
  rw[Rv hg,nmL] at he
  generalize I8 (elO b x)=er at hA hAe he
  obtain⟨eo,ec,ep⟩:=er
  cases eo with
  |none=>
   obtain⟨e1,e2⟩:=hAe rfl
   simp only at e1 e2 he
   subst he
   have gc:((ec:Int) !=0)=true:=by rw[bne_iff_ne];omega
   have hA:Ab Tryz.prog 107 [.d (Af false (elO b x))] (fun r=>r= .tup [A3,erA ec ep]):=hA
   unfold elO at hA e2
   (repeat'((conv=>whnf);first|refine Aw asP ?_|refine NIdx.tab (fun _=>rfl) hg ?_|refine NSl.slice (x.at') (x.stop) ?_|refine Aa hA H8 ?_|(with_reducible refine NInt.i64 ?_)|refine zF ?_|exact zE))
  |some a=>
   simp only at he
   have hA:Ab Tryz.prog 107 [.d (Af false (elO b x))] (fun r=>r= .tup [.d (Li a),erA 0 0]):=hA
   unfold elO at hA
   (repeat'((conv=>whnf);first|refine Ae ?_|refine Aw asP ?_|refine NIdx.tab (fun _=>rfl) hg ?_|refine NSl.slice (x.at') (x.stop) ?_|refine Aa hA H8 ?_|refine A4 Su a ?_|(with_reducible refine NInt.i64 ?_)));(all_goals(conv=>whnf))
   refine⟨(i+1,out++[a]),⟨by show i+1≤_;omega,by simp;omega,he⟩,by show l.length-(i+1)<l.length-i;omega,?_⟩
   exact leQ
 ·have gi:decide ((i:Int)<l.length)=false:=decide_eq_false (by omega)
  obtain rfl:i=l.length:=by omega
  rw[List.drop_length,nmL] at he
  subst he
  (repeat'((conv=>whnf);refine Ay asP ?_));(all_goals(conv=>whnf))
  all_goals exact zE
theorem yK (b:List UInt8):∀(l:List El) (out:List (List Att)),(∀x∈l,x.at'≤x.stop∧x.stop≤b.length)→(nmL b l out).1=none→(nmL b l out).2.1≠0∧(nmL b l out).2.2≤b.length
 |[],_,_,h=>by cases h
 |x::r,out,hx,h=>by
  have hle:=V6 b x
  have hAe:=aX (elO b x)
  have:=hx x (by simp)
  rw[nmL] at h⊢
  generalize I8 (elO b x)=er at hAe h⊢
  obtain⟨eo,ec,ep⟩:=er
  cases eo with
  |none=>obtain⟨e1,e2⟩:=hAe rfl;exact⟨e1,by show x.at'+ep≤_;simp only at e2;omega⟩
  |some a=>exact yK b r _ (fun y hy=>hx y (by simp[hy])) h
theorem KE (b:List UInt8) (h:(nmR b).1=none):(nmR b).2.1≠0∧(nmR b).2.2≤b.length:=by
 have hin:=fun x=>Ey (b:=b) (c:=0) (n:=16) (x:=x)
 have hoff:=I7 b 0 16
 unfold nmR at h⊢
 generalize Bc b 0 16=R at hin hoff h⊢
 unfold nmQ at h⊢
 by_cases h1:R.code≠0
 ·rw[if_pos h1];exact⟨h1,hoff⟩
 rw[if_neg h1] at h⊢
 exact yK b R.l [] (fun y hy=>by have:=hin y hy;omega) h
abbrev gnQ (g:Gn):AV:= .agg [iv g.k,.d (sD g.oid),.d (sD g.tx),.d (Af true g.by'),.d (Sv g.nm),iv g.ak,.d (sD g.av),iv g.pk,.d (sD g.pv)]
def gz:Gn:=⟨0,[],[],[],[],0,[],0,[]⟩
abbrev ptA (k:Int) (c:List UInt8):AV:= .agg [iv k,.d (Af false c)]
abbrev gbA (p:Gn×Bool):AV:= .tup [gnQ p.1,bv p.2]
theorem Dk {p:Prop} (h:p:=by first|rfl|(simp only[AV.gives,AV.ren,AV.give,D.un,D.uns,Aj,Am,List.nil_append,List.append_nil,List.cons_append,Av,A6,Cc,Bn,A8,B5,Cj,B6,Bk];first|done|rfl)):p:=h
theorem Rx (k:Int) (c:List UInt8) (hl:c.length≤1000000):Ab Tryz.prog 134 [ptA k c] (fun r=>r=gbA (⟨k,[],Cw 22 c,[],[],0,[],0,[]⟩,D4 22 c==0)):=by
 have hE:=P5 22 c hl
 refine acQ 19 Tryz.func134 rfl rfl fun _ _ _=> ?_
 (repeat'((conv=>whnf);refine Aa hE Dk ?_));(all_goals(conv=>whnf))
 all_goals exact zE
theorem V8 (k:Int) (c:List UInt8) (hl:c.length≤1000000):Ab Tryz.prog 135 [ptA k c] (fun r=>r=gbA (⟨k,[],[],c,[],0,[],0,[]⟩,true)):=by
 have hE:=Ko c (by omega)
 refine acQ 10 Tryz.func135 rfl rfl fun _ _ _=> ?_
 (repeat'((conv=>whnf);first|refine Aa hE Dk ?_|refine zF ?_|exact zE))
theorem fQ (k:Int) (c:List UInt8) (hl:c.length≤800000):Ab Tryz.prog 138 [ptA k c] (fun r=>r=gbA (⟨k,odT c,[],[],[],0,[],0,[]⟩,(odC c:Int)==0)):=by
 have hE:=O1 c (by omega)
 rw[Nw] at hE
 refine acQ 18 Tryz.func138 rfl rfl fun _ _ _=> ?_
 (repeat'((conv=>whnf);refine Aa hE Dk ?_));(all_goals(conv=>whnf))
 all_goals exact zE
def Qm (k:Int) (c:List UInt8):Gn×Bool:=match nmR c with
 |(some n,_,_)=>(⟨k,[],[],[],n,0,[],0,[]⟩,true)
 |(none,_,_)=>(⟨k,[],[],[],[],0,[],0,[]⟩,false)
theorem yL (k:Int) (c:List UInt8) (hl:c.length≤800000):Ab Tryz.prog 136 [ptA k c] (fun r=>r=gbA (Qm k c)):=by
 have hE:=sV c hl
 have ho:=KE c
 unfold Qm
 generalize nmR c=q at hE ho⊢
 obtain⟨n,cd,of⟩:=q
 cases n with
 |none=>
  have h0:=(ho rfl).1
  simp only at h0
  have g0:((cd:Int)==0)=false:=by rw[beq_eq_false_iff_ne];omega
  have hE:Ab Tryz.prog 191 [.d (Af false c)] (fun r=>r= .tup [A3,erA cd of]):=hE
  refine acQ 19 Tryz.func136 rfl rfl fun _ _ _=> ?_
  (repeat'((conv=>whnf);first|refine Aa hE Dk ?_|refine zF ?_));(all_goals(conv=>whnf))
  all_goals(refine A9 ?_;(repeat'(first|exact trivial|exact Bm _|refine And.intro ?_ ?_|exact rfl));(all_goals(conv=>whnf)))
  all_goals exact g0
 |some n=>
  have hE:Ab Tryz.prog 191 [.d (Af false c)] (fun r=>r= .tup [.d (Sv n),erA 0 0]):=hE
  refine acQ 19 Tryz.func136 rfl rfl fun _ _ _=> ?_
  (repeat'((conv=>whnf);first|refine Aa hE Dk ?_|refine zF ?_|exact zE))
theorem O7 {c p:List UInt8} (h:p∈Dv c):p.length≤c.length:=by
 unfold Dv at h
 split at h
 ·cases h
 ·obtain⟨x,-,rfl⟩:=List.mem_map.1 h
  exact Tt c x
def inn (b:List UInt8) (n:Nat):List UInt8:=(Bv b n).getD []
theorem ET (b:List UInt8) (n:Nat) (hb:b.length≤1000000000):Ab Tryz.prog 188 [.d (Af false b),iv n] (fun r=>r=xB (Bv b n)):=rR b n hb
theorem Qn (b:List UInt8) (n:Nat):(inn b n).length≤b.length:=by
 unfold inn Bv
 split
 ·exact Nat.zero_le _
 ·show((b.drop _).take _).length≤_;rw[Ao,Ax];omega
def Xk (k:Int) (p q:List UInt8):Gn×Bool:=if(Bh p).code≠0∨(Bh p).x.isB 0 6 false=false then(gz,false) else
 (⟨k,odT (p.drop (Bh p).x.body),[],inn q 0,[],0,[],0,[]⟩,(Bv q 0).isSome&&((odC (p.drop (Bh p).x.body):Int)==0))
def Ny (k:Int) (c:List UInt8):Gn×Bool:=match Dv c with
 |[p,q]=>Xk k p q
 |_=>(gz,false)
theorem yM (k:Int) (c:List UInt8) (hl:c.length≤800000):Ab Tryz.prog 133 [ptA k c] (fun r=>r=gbA (Ny k c)):=by
 have hS:=Ya c (by omega)
 have hm:=fun p=>O7 (c:=c) (p:=p)
 unfold Ny
 generalize Dv c=l at hS hm⊢
 match l with
 |[]=>
  refine acQ 62 Tryz.func133 rfl rfl fun _ _ _=> ?_
  (repeat'((conv=>whnf);first|refine Ac ?_|refine Aa hS Dk ?_|exact zE))
 |[x]=>
  refine acQ 62 Tryz.func133 rfl rfl fun _ _ _=> ?_
  (repeat'((conv=>whnf);first|refine Ac ?_|refine Aa hS Dk ?_|exact zE))
 |x::y::z::r=>
  refine acQ 62 Tryz.func133 rfl rfl fun _ _ _=> ?_
  (repeat'((conv=>whnf);first|refine Ac ?_|refine Aa hS Dk ?_|exact zE))
 |[p,q]=>
  have hp:=hm p (by simp)
  have hq:=hm q (by simp)
  have g0:([p,q]:List (List UInt8))[0]?=some p:=rfl
  have g1:([p,q]:List (List UInt8))[1]?=some q:=rfl
  have hO:=Ld p (by omega)
  have hF:=D6 p
  have hI:=Rk (Bh p).x 0 6 false
  show Ab _ _ _ (fun r=>r=gbA (Xk k p q))
  unfold Xk
  by_cases h1:(Bh p).code≠0
  ·rw[if_pos (.inl h1)]
   generalize Bh p=r1 at hO h1
   have gc:((r1.code:Int) !=0)=true:=by rw[bne_iff_ne];omega
   refine acQ 62 Tryz.func133 rfl rfl fun _ _ _=> ?_
   (repeat'((conv=>whnf);first|refine Ac ?_|refine Ae ?_|refine Aw asP ?_|refine Aa hS Dk ?_|refine NIdx.tab (fun _=>rfl) g0 ?_|refine Aa hO Dk ?_|exact zE))
  have h1':=Decidable.not_not.1 h1
  cases h2:(Bh p).x.isB 0 6 false
  ·rw[if_pos (.inr rfl)]
   rw[h2] at hI
   generalize Bh p=r1 at hO h1' hI
   obtain⟨x1,c1,o1⟩:=r1
   simp only at h1'
   subst h1'
   refine acQ 62 Tryz.func133 rfl rfl fun _ _ _=> ?_
   (repeat'((conv=>whnf);first|refine Ac ?_|refine Ae ?_|refine Aa hS Dk ?_|refine NIdx.tab (fun _=>rfl) g0 ?_|refine Aa hO Dk ?_|refine Aa hI rfl ?_|exact zE))
  ·rw[if_neg (by rintro(h|h);exact h1 h;cases h)]
   rw[h2] at hI
   have hb:=hF.1 h1'
   have hD:=O1 (p.drop (Bh p).x.body) (by rw[Ax];omega)
   have hN:=ET q 0 (by omega)
   have hil:=Qn q 0
   have hC:=Ko (inn q 0) (by omega)
   rw[Nw] at hD
   unfold inn at hC⊢
   generalize Bh p=r1 at hO h1' hI hb hD⊢
   obtain⟨x1,c1,o1⟩:=r1
   simp only at h1' hb hI hD⊢
   subst h1'
   generalize odT (p.drop x1.body)=ot at hD⊢
   generalize odC (p.drop x1.body)=oc at hD⊢
   cases hin:Bv q 0 with
   |none=>
    rw[hin] at hN hC
    have hC:Ab Tryz.prog 189 [.d (Af false [])] (fun r=>r= .d (Af true [])):=hC
    have hN:Ab Tryz.prog 188 [.d (Af false q),iv 0] (fun r=>r= .tup [A3,bv false]):=hN
    refine acQ 62 Tryz.func133 rfl rfl fun _ _ _=> ?_
    (repeat'((conv=>whnf);first|refine Ae ?_|refine Aa hS Dk ?_|refine NIdx.tab (fun _=>rfl) g0 ?_|refine NIdx.tab (fun _=>rfl) g1 ?_|refine Aa hO Dk ?_|refine Aa hI rfl ?_|refine Gb (x1.body) ?_|refine Aa hD Dk ?_|refine Aa hN Dk ?_|refine Be hC Oo ?_|refine zF ?_|exact zE))
   |some v=>
    rw[hin] at hN hC
    have hC:Ab Tryz.prog 189 [.d (Af false v)] (fun r=>r= .d (Af true v)):=hC
    have hN:Ab Tryz.prog 188 [.d (Af false q),iv 0] (fun r=>r= .tup [.d (Af false v),bv true]):=hN
    refine acQ 62 Tryz.func133 rfl rfl fun _ _ _=> ?_
    (repeat'((conv=>whnf);first|refine Ac ?_|refine Ae ?_|refine Aa hS Dk ?_|refine NIdx.tab (fun _=>rfl) g0 ?_|refine NIdx.tab (fun _=>rfl) g1 ?_|refine Aa hO Dk ?_|refine Aa hI rfl ?_|refine Gb (x1.body) ?_|refine Aa hD Dk ?_|refine Aa hN Dk ?_|refine Aa hC Dk ?_|refine zF ?_|exact zE))
def pK (b:List UInt8):Int:=if Gj b=true then Nx b else 0
def pV (b:List UInt8):List UInt8:=if Gj b=true then Rw b else []
theorem aY (b:List UInt8) (hb:b.length≤1000000):Ab Tryz.prog 192 [.d (Af false b)] (fun r=>r= .tup [txA (pK b) (pV b),bv (Gj b)]):=by
 have h:=Xi b hb
 unfold KD at h
 unfold pK pV
 cases hd:Gj b
 all_goals
  rw[hd] at h
  exact h
def Lj (k:Int) (q:List UInt8) (ak:Int) (av:List UInt8):Gn×Bool:=(⟨k,[],[],[],[],ak,av,pK (inn q 1),pV (inn q 1)⟩,(Bv q 1).isSome&&Gj (inn q 1))
def K3 (k:Int) (c:List UInt8):Gn×Bool:=match Dv c with
 |[p,q]=>if(Bv p 0).isSome&&Gj (inn p 0) then Lj k q (pK (inn p 0)) (pV (inn p 0)) else(gz,false)
 |[q]=>Lj k q 0 []
 |_=>(gz,false)
theorem Gf {b v:List UInt8} {n:Nat} (h:Bv b n=some v):inn b n=v:=by unfold inn;rw[h];rfl
theorem V9 {b:List UInt8} {n:Nat} (h:Bv b n=none):inn b n=[]:=by unfold inn;rw[h];rfl
theorem Ck {p:Prop} (h:p:=by first|rfl|(simp only[AV.gives,AV.ren,AV.give,D.un,D.uns,Aj,Am,List.nil_append,List.append_nil,List.cons_append,Av,A6,Cc,Bn,A8,B5,Cj,B6,Bk];first|done|rfl)):p:=h
theorem yN (k:Int) (c:List UInt8) (hl:c.length≤800000):Ab Tryz.prog 137 [ptA k c] (fun r=>r=gbA (K3 k c)):=by
 have hS:=Ya c (by omega)
 have hm:=fun p=>O7 (c:=c) (p:=p)
 unfold K3
 generalize Dv c=l at hS hm⊢
 match l with
 |[]=>
  refine acQ 69 Tryz.func137 rfl rfl fun _ _ _=> ?_
  (repeat'((conv=>whnf);first|refine Ac ?_|refine Ae ?_|refine Aa hS Ck ?_|exact zE))
 |x::y::z::r=>
  refine acQ 69 Tryz.func137 rfl rfl fun _ _ _=> ?_
  (repeat'((conv=>whnf);first|refine Ac ?_|refine Ae ?_|refine Aa hS Ck ?_|exact zE))
 |[q]=>
  have hq:=hm q (by simp)
  have g0:([q]:List (List UInt8))[0]?=some q:=rfl
  have hN:=ET q 1 (by omega)
  have hil:=Qn q 1
  have hD:=aY (inn q 1) (by omega)
  show Ab _ _ _ (fun r=>r=gbA (Lj k q 0 []))
  unfold Lj
  cases hin:Bv q 1 with
  |none=>
   rw[hin] at hN
   rw[V9 hin] at hD⊢
   have hN:Ab Tryz.prog 188 [.d (Af false q),iv 1] (fun r=>r= .tup [A3,bv false]):=hN
   generalize pK []=K at hD⊢
   generalize pV []=V at hD⊢
   generalize Gj []=O at hD⊢
   refine acQ 69 Tryz.func137 rfl rfl fun _ _ _=> ?_
   (repeat'((conv=>whnf);first|refine Ae ?_|refine Aa hS Ck ?_|refine NIdx.tab (fun _=>rfl) g0 ?_|refine Aa hN Ck ?_|refine Be hD Oo ?_|exact zE))
  |some v=>
   rw[hin] at hN
   rw[Gf hin] at hD⊢
   have hN:Ab Tryz.prog 188 [.d (Af false q),iv 1] (fun r=>r= .tup [.d (Af false v),bv true]):=hN
   generalize pK v=K at hD⊢
   generalize pV v=V at hD⊢
   generalize Gj v=O at hD⊢
   refine acQ 69 Tryz.func137 rfl rfl fun _ _ _=> ?_
   (repeat'((conv=>whnf);first|refine Ac ?_|refine Ae ?_|refine Aa hS Ck ?_|refine NIdx.tab (fun _=>rfl) g0 ?_|refine Aa hN Ck ?_|refine Aa hD Ck ?_|exact zE))
 |[p,q]=>
  have hp:=hm p (by simp)
  have hq:=hm q (by simp)
  have g0:([p,q]:List (List UInt8))[0]?=some p:=rfl
  have g1:([q]:List (List UInt8))[0]?=some q:=rfl
  have hN0:=ET p 0 (by omega)
  have hil0:=Qn p 0
  have hD0:=aY (inn p 0) (by omega)
  have hN:=ET q 1 (by omega)
  have hil:=Qn q 1
  have hD:=aY (inn q 1) (by omega)
  show Ab _ _ _ (fun r=>r=gbA (if(Bv p 0).isSome&&Gj (inn p 0) then Lj k q (pK (inn p 0)) (pV (inn p 0)) else(gz,false)))
  cases hin0:Bv p 0 with
  |none=>
   rw[hin0] at hN0
   rw[V9 hin0] at hD0
   have hN0:Ab Tryz.prog 188 [.d (Af false p),iv 0] (fun r=>r= .tup [A3,bv false]):=hN0
   rw[if_neg (by simp)]
   generalize pK []=K at hD0
   generalize pV []=V at hD0
   generalize Gj []=O at hD0
   refine acQ 69 Tryz.func137 rfl rfl fun _ _ _=> ?_
   (repeat'((conv=>whnf);first|refine Ac ?_|refine Aa hS Ck ?_|refine NIdx.tab (fun _=>rfl) g0 ?_|refine Aa hN0 Ck ?_|refine Be hD0 Oo ?_|exact zE))
  |some v=>
   rw[hin0] at hN0
   rw[Gf hin0] at hD0⊢
   have hN0:Ab Tryz.prog 188 [.d (Af false p),iv 0] (fun r=>r= .tup [.d (Af false v),bv true]):=hN0
   cases hd0:Gj v
   ·rw[hd0] at hD0
    rw[if_neg (by simp)]
    refine acQ 69 Tryz.func137 rfl rfl fun _ _ _=> ?_
    (repeat'((conv=>whnf);first|refine Ac ?_|refine Ae ?_|refine Aa hS Ck ?_|refine NIdx.tab (fun _=>rfl) g0 ?_|refine Aa hN0 Ck ?_|refine Aa hD0 Ck ?_|exact zE))
   rw[hd0] at hD0
   rw[if_pos (by rfl)]
   generalize pK v=K0 at hD0⊢
   generalize pV v=V0 at hD0⊢
   unfold Lj
   cases hin:Bv q 1 with
   |none=>
    rw[hin] at hN
    rw[V9 hin] at hD⊢
    have hN:Ab Tryz.prog 188 [.d (Af false q),iv 1] (fun r=>r= .tup [A3,bv false]):=hN
    generalize pK []=K at hD⊢
    generalize pV []=V at hD⊢
    generalize Gj []=O at hD⊢
    refine acQ 69 Tryz.func137 rfl rfl fun _ _ _=> ?_
    (repeat'((conv=>whnf);first|refine Ac ?_|refine Ae ?_|refine Aa hS Ck ?_|refine NIdx.tab (fun _=>rfl) g0 ?_|refine Aa hN0 Ck ?_|refine Aa hD0 Ck ?_|refine NSl.tab (fun _=>rfl) 1 2 [q] rfl ?_|refine NIdx.tab (fun _=>rfl) g1 ?_|refine Aa hN Ck ?_|refine Be hD Oo ?_|refine zF ?_|exact zE))
   |some v=>
    rw[hin] at hN
    rw[Gf hin] at hD⊢
    have hN:Ab Tryz.prog 188 [.d (Af false q),iv 1] (fun r=>r= .tup [.d (Af false v),bv true]):=hN
    generalize pK v=K at hD⊢
    generalize pV v=V at hD⊢
    generalize Gj v=O at hD⊢
    refine acQ 69 Tryz.func137 rfl rfl fun _ _ _=> ?_
    (repeat'((conv=>whnf);first|refine Ac ?_|refine Ae ?_|refine Aa hS Ck ?_|refine NIdx.tab (fun _=>rfl) g0 ?_|refine Aa hN0 Ck ?_|refine Aa hD0 Ck ?_|refine NSl.tab (fun _=>rfl) 1 2 [q] rfl ?_|refine NIdx.tab (fun _=>rfl) g1 ?_|refine Aa hN Ck ?_|refine Aa hD Ck ?_|refine zF ?_|exact zE))
theorem Yr (b:List UInt8) (hb:b.length≤1000000000):Ab Tryz.prog 97 [.d (Af false b)] (fun r=>r=bv (Ek b)):=by
 rw[Tp]
 rcases V3 b hb with⟨h1,ta,tq,tm,tk,tl,tcs,hT⟩|⟨h1,hT⟩
 ·rw[h1]
  refine acQ 13 Tryz.func97 rfl rfl fun _ _ _=> ?_
  (repeat'((conv=>whnf);refine Aa hT Ck ?_));(all_goals(conv=>whnf))
  all_goals exact zE
 ·generalize Mw b=tO at hT
  generalize Kz b=tc at hT h1⊢
  have g1:((tc:Int)==0)=(tc==0):=Gc tc 0
  refine acQ 13 Tryz.func97 rfl rfl fun _ _ _=> ?_
  (repeat'((conv=>whnf);refine Aa hT Ck ?_));(all_goals(conv=>whnf))
  all_goals(refine A9 ?_;(repeat'(first|refine And.intro ?_ ?_|exact rfl));(all_goals(conv=>whnf)))
  all_goals exact g1
theorem Js (n:Nat) (b:List UInt8) (hn:n≤30) (hb:b.length≤900000000):Ab Tryz.prog 98 [iv n,.d (Af false b)] (fun r=>r= .tup [A7 0 5 (Ah 2 n true b),iv 0]):=by
 have hW:=D2 2 n true b (by omega) hn hb
 refine acQ 12 Tryz.func98 rfl rfl fun _ _ _=> ?_
 (repeat'((conv=>whnf);refine Aa hW Ck ?_));(all_goals(conv=>whnf))
 all_goals exact zE
theorem nX (k:Int):(k=0∨k=1∨k=2∨k=3∨k=4∨k=5∨k=6∨k=7∨k=8)∨((k==0)=false∧(k==1)=false∧(k==2)=false∧(k==3)=false∧(k==4)=false∧(k==5)=false∧(k==6)=false∧(k==7)=false∧(k==8)=false):=by
 simp only[beq_eq_false_iff_ne];omega
def D0 (k:Int):Bool:=k==0||(k==3||(k==4||k==5))
theorem fR (k:Int):Ab Tryz.prog 67 [iv k] (fun r=>r=bv (D0 k)):=by
 rcases nX k with(h|h|h|h|h|h|h|h|h)|⟨h0,h1,h2,h3,h4,h5,h6,h7,h8⟩
 case inr=>
  rw[show D0 k=false by unfold D0;rw[h0,h3,h4,h5];rfl]
  refine acQ 9 Tryz.func67 rfl rfl fun _ _ _=> ?_
  (repeat'((conv=>whnf);refine Ay asP ?_));(all_goals(conv=>whnf))
  all_goals exact zE
 all_goals
  subst h
  refine acQ 9 Tryz.func67 rfl rfl fun _ _ _=> ?_
  (repeat'((conv=>whnf);first|refine Ac ?_|refine Ae ?_|exact zE))
def ip (n:Nat):Bool:=n==4||(n==8||(n==16||n==32))
def S3 (g:Gn):Bool:=if g.k=0 then Ek g.by' else if g.k=3 then Ek (Ah 2 3 true g.by') else if g.k=7 then ip g.by'.length else true
theorem Ys (g:Gn) (hb:g.by'.length≤100000000):Ab Tryz.prog 65 [gnA g] (fun r=>r=bv (S3 g)):=by
 obtain⟨k,oid,tx,by',nm,ak,av,pk,pv⟩:=g
 simp only at hb
 have hO:=Yr by' (by omega)
 have hX:=Js 3 by' (by omega) (by omega)
 have hle:=Ar 2 3 true by' (by omega)
 have hO3:=Yr (Ah 2 3 true by') (by omega)
 unfold S3
 simp only
 rcases nX k with(h|h|h|h|h|h|h|h|h)|⟨h0,h1,h2,h3,h4,h5,h6,h7,h8⟩
 case inr=>
  rw[if_neg (by simpa using h0),if_neg (by simpa using h3),if_neg (by simpa using h7)]
  refine acQ 48 Tryz.func65 rfl rfl fun _ _ _=> ?_
  (repeat'((conv=>whnf);refine Ay asP ?_));(all_goals(conv=>whnf))
  all_goals exact zE
 case inl.inr.inr.inr.inr.inr.inr.inr.inl=>
  subst h
  rw[if_neg (by decide),if_neg (by decide),if_pos rfl]
  unfold ip
  have b1:=Gc by'.length 4
  have b2:=Gc by'.length 8
  have b3:=Gc by'.length 16
  have b4:=Gc by'.length 32
  generalize (by'.length==4)=c1 at b1⊢
  generalize (by'.length==8)=c2 at b2⊢
  generalize (by'.length==16)=c3 at b3⊢
  generalize (by'.length==32)=c4 at b4⊢
  cases c1<;>cases c2<;>cases c3<;>cases c4
  all_goals
   refine acQ 48 Tryz.func65 rfl rfl fun _ _ _=> ?_
   (repeat'((conv=>whnf);first|refine Ac ?_|refine Ae ?_|refine Aw asP ?_|refine Ay asP ?_));(all_goals(conv=>whnf))
   all_goals(refine A9 ?_;(repeat'(first|exact Bm _|refine And.intro ?_ ?_|exact rfl));(all_goals(conv=>whnf)))
   all_goals exact b4
 case inl.inl=>
  subst h
  rw[if_pos rfl]
  refine acQ 48 Tryz.func65 rfl rfl fun _ _ _=> ?_
  (repeat'((conv=>whnf);first|refine Ac ?_|refine Aa hO Ck ?_|exact zE))
 case inl.inr.inr.inr.inl=>
  subst h
  rw[if_neg (by decide),if_pos rfl]
  refine acQ 48 Tryz.func65 rfl rfl fun _ _ _=> ?_
  (repeat'((conv=>whnf);first|refine Ac ?_|refine Ae ?_|refine Aa hX Ck ?_|refine Aa hO3 Ck ?_|exact zE))
 all_goals
  subst h
  rw[if_neg (by decide),if_neg (by decide),if_neg (by decide)]
  refine acQ 48 Tryz.func65 rfl rfl fun _ _ _=> ?_
  (repeat'((conv=>whnf);refine Ae ?_));(all_goals(conv=>whnf))
  all_goals exact zE
def zT (k:Int) (l:List UInt8):Bool:=k==0&&l==[]
def alB (a b c d e:Bool) (g:Gn):Bool:=(a||g.oid==[])&&((b||g.tx==[])&&((c||(g.by'.length:Int)==0)&&((d||(g.nm.length:Int)==0)&&(e||(zT g.ak g.av&&zT g.pk g.pv)))))
def Ct (g:Gn):Bool:=alB (g.k==0||g.k==8) (g.k==1||(g.k==2||g.k==6)) (g.k==0||(g.k==3||g.k==7)) (g.k==4) (g.k==5) g
theorem sW (g:Gn):Ab Tryz.prog 64 [gnA g] (fun r=>r=bv (Ct g)):=by
 obtain⟨k,oid,tx,by',nm,ak,av,pk,pv⟩:=g
 unfold Ct alB zT
 simp only
 rcases nX k with(h|h|h|h|h|h|h|h|h)|⟨h0,h1,h2,h3,h4,h5,h6,h7,h8⟩
 case inr=>
  rw[h0,h1,h2,h3,h4,h5,h6,h7,h8]
  refine acQ 86 Tryz.func64 rfl rfl fun _ _ _=> ?_
  (repeat'((conv=>whnf);first|refine Ac ?_|refine Ae ?_|refine Ay asP ?_|refine As (Ea rfl rfl (ltN rfl) rfl rfl) ?_|(refine Ai (fun hc hcP=> ?_) (fun hc hcP=> ?_)<;>try(exfalso;omega))|refine NBr.mk (fun hc=> ?_) (fun hc=> ?_)));(all_goals(conv=>whnf))
  all_goals(refine A9 ?_;(repeat'(first|refine And.intro ?_ ?_|exact rfl));(all_goals(conv=>whnf)))
  all_goals(simp_all)
 all_goals
  subst h
  refine acQ 86 Tryz.func64 rfl rfl fun _ _ _=> ?_
  (repeat'((conv=>whnf);first|refine Ac ?_|refine Ae ?_|refine As (Ea rfl rfl (ltN rfl) rfl rfl) ?_|(refine Ai (fun hc hcP=> ?_) (fun hc hcP=> ?_)<;>try(exfalso;omega))|refine NBr.mk (fun hc=> ?_) (fun hc=> ?_)));(all_goals(conv=>whnf))
  all_goals(refine A9 ?_;(repeat'(first|refine And.intro ?_ ?_|exact rfl));(all_goals(conv=>whnf)))
  all_goals(simp_all)
def NO (a b:List UInt8):Nat→List UInt8
 |0=>[]
 |1=>a
 |_+2=>a++b
def My (g:Gn):Option (List UInt8):=
 if(zT g.ak g.av||Al g.ak g.av)&&Al g.pk g.pv then some ((if zT g.ak g.av then [] else Ah 2 0 true (txE g.ak g.av))++Ah 2 1 true (txE g.pk g.pv)) else none
def Eg (g:Gn):Option (List UInt8):=
 if g.k=0 then(if E4 g.oid then some (Ah 0 6 false (Bo g.oid)++Ah 2 0 true g.by') else none)
 else if g.k=1∨g.k=2∨g.k=6 then(if Al 22 g.tx then some (chS 22 g.tx) else none)
 else if g.k=3∨g.k=7 then some g.by'
 else if g.k=4 then(if nmV g.nm then some (nmE g.nm) else none)
 else if g.k=5 then My g
 else if g.k=8 then(if E4 g.oid then some (Bo g.oid) else none)
 else none
def OI:Option (List UInt8)→AV
 |some c=> .tup [.d (Af false c),iv 0]
 |none=> .tup [.d (Af false []),iv 8]
structure Gn.sm (g:Gn):Prop where
 o:g.oid.length≤3000000
 t:g.tx.length≤3000000
 b:g.by'.length≤3000000
 n:nmZ g.nm
 a:g.av.length≤3000000
 p:g.pv.length≤3000000
theorem Gh {k:Int} {l:List UInt8} (h:Al k l=true) (hl:l.length≤3000000):(txE k l).length≤4*l.length+6:=by
 have h4:=Gu h
 have:=Ar 0 k.toNat false (chS k l) (by omega)
 unfold txE;omega
theorem HU {k:Int} {l:List UInt8} (hl:l.length≤3000000) (h:Al k l=true):Ab Tryz.prog 101 [txA k l] (fun r=>r= .tup [A7 0 5 (txE k l),iv 0]):=by
 have:=Mx k l (by omega)
 rwa[frS,if_pos h] at this
theorem IA {k:Int} {l:List UInt8} (hl:l.length≤3000000) (h:Al k l=false):Ab Tryz.prog 101 [txA k l] (fun r=>r= .tup [A3,iv 8]):=by
 have:=Mx k l (by omega)
 rwa[frS,if_neg (by rw[h];simp)] at this
theorem Tu {s:List UInt8} (h:E4 s=false):Xe s=8∧Bo s=[]:=by
 unfold E4 at h;unfold Xe Bo
 cases ha:Ev s with
 |none=>exact⟨rfl,rfl⟩
 |some a=>rw[ha] at h;cases h
theorem Lk {p:Prop} (h:p:=by first|rfl|(simp only[AV.gives,AV.ren,AV.give,D.un,D.uns,Aj,Am,List.nil_append,List.append_nil,List.cons_append,Av,A6,Cc,Bn,A8,B5,Cj,B6,Bk];first|done|rfl)):p:=h
theorem aZ (g:Gn) (hs:g.sm):Ab Tryz.prog 66 [gnA g] (fun r=>r=OI (Eg g)):=by
 obtain⟨k,oid,tx,by',nm,ak,av,pk,pv⟩:=g
 obtain⟨s1,s2,s3,s4,s5,s6⟩:=hs
 simp only at s1 s2 s3 s4 s5 s6
 have k1:=Fa oid
 have hE:=Vo oid (by omega)
 have hW:=D2 0 6 false (Bo oid) (by omega) (by omega) (by omega)
 have hX:=Js 0 by' (by omega) (by omega)
 have hle:=Ar 2 0 true by' (by omega)
 have hlo:=Ar 0 6 false (Bo oid) (by omega)
 have hCo:=Oy [Ah 0 6 false (Bo oid),Ah 2 0 true by'] (by simp;omega) (by simp)
 rw[show [Ah 0 6 false (Bo oid),Ah 2 0 true by'].flatten=Ah 0 6 false (Bo oid)++Ah 2 0 true by' by simp] at hCo
 have hT:Ab Tryz.prog 99 [.agg [iv 22,.d (.v (.string ⟨⟨tx⟩⟩))]] (fun r=>r= .tup [.d (Af true (Fc 22 tx)),iv (Ix 22 tx)]):=P4 22 tx (by omega)
 have hN:=sU nm s4
 unfold Eg
 simp only
 rcases nX k with(h|h|h|h|h|h|h|h|h)|⟨h0,h1,h2,h3,h4,h5,h6,h7,h8⟩
 case inr=>
  have e:¬k=0∧¬(k=1∨k=2∨k=6)∧¬(k=3∨k=7)∧¬k=4∧¬k=5∧¬k=8:=by
   simp only[beq_eq_false_iff_ne] at h0 h1 h2 h3 h4 h5 h6 h7 h8;omega
  rw[if_neg e.1,if_neg e.2.1,if_neg e.2.2.1,if_neg e.2.2.2.1,if_neg e.2.2.2.2.1,if_neg e.2.2.2.2.2]
  show Ab _ _ _ (fun r=>r= .tup [.d (Af false []),iv 8])
  refine acQ 118 Tryz.func66 rfl rfl fun _ _ _=> ?_
  (repeat'((conv=>whnf);refine Ay asP ?_));(all_goals(conv=>whnf))
  all_goals exact zE
 case inl.inl=>
  subst h
  rw[if_pos rfl]
  cases ho:E4 oid
  ·rw[(Tu ho).1,(Tu ho).2] at hE
   show Ab _ _ _ (fun r=>r= .tup [.d (Af false []),iv 8])
   refine acQ 118 Tryz.func66 rfl rfl fun _ _ _=> ?_
   (repeat'((conv=>whnf);first|refine Ac ?_|refine Aa hE rfl ?_|exact zE))
  ·rw[(Rp oid).1 ho] at hE
   show Ab _ _ _ (fun r=>r= .tup [.d (Af false (Ah 0 6 false (Bo oid)++Ah 2 0 true by')),iv 0])
   refine acQ 118 Tryz.func66 rfl rfl fun _ _ _=> ?_
   (repeat'((conv=>whnf);first|refine Ac ?_|refine Ae ?_|refine Aa hE rfl ?_|refine Aa hW Lk ?_|refine Aa hX Lk ?_|refine Aa hCo Lk ?_|exact zE))
 case inl.inr.inr.inr.inr.inl=>
  subst h
  rw[if_neg (by decide),if_neg (by decide),if_neg (by decide),if_pos rfl]
  cases ho:nmV nm
  ·rw[if_neg (by rw[ho];simp)] at hN
   show Ab _ _ _ (fun r=>r= .tup [.d (Af false []),iv 8])
   refine acQ 118 Tryz.func66 rfl rfl fun _ _ _=> ?_
   (repeat'((conv=>whnf);first|refine Ac ?_|refine Ae ?_|refine Aa hN Lk ?_|exact zE))
  ·rw[if_pos ho] at hN
   show Ab _ _ _ (fun r=>r= .tup [.d (Af false (nmE nm)),iv 0])
   refine acQ 118 Tryz.func66 rfl rfl fun _ _ _=> ?_
   (repeat'((conv=>whnf);first|refine Ac ?_|refine Ae ?_|refine Aa hN Lk ?_|exact zE))
 case inl.inr.inr.inr.inr.inr.inl=>
  subst h
  rw[if_neg (by decide),if_neg (by decide),if_neg (by decide),if_neg (by decide),if_pos rfl]
  unfold My
  simp only
  generalize hz:zT ak av=z
  have gz':(ak==0&&av==[])=z:=hz
  generalize hpre:(if z=true then [] else Ah 2 0 true (txE ak av))=pre
  have hprel:(z||Al ak av)=true→pre.length≤13000000:=fun h=>by
   cases z
   ·rw[Bool.false_or] at h
    have h1:=Gh h s5
    have h2:=Ar 2 0 true (txE ak av) (by omega)
    rw[←hpre,if_neg (by simp)];omega
   ·rw[←hpre,if_pos rfl];simp
  refine acQ 118 Tryz.func66 rfl rfl fun _ _ _=> ?_
  (repeat'((conv=>whnf);first|refine Ac ?_|refine Ae ?_));(all_goals(conv=>whnf))
  refine Bb [.s 8 1 5] (fun i:Nat=>i≤2∧(1≤i→(z||Al ak av)=true)∧(2≤i→Al pk pv=true)) (fun i=>2-i) (fun i=>⟨[(1,.ptr 1 0),(8,A7 8 5 (NO pre (Ah 2 1 true (txE pk pv)) i)),(15,iv 5),(75,.d (.sl false 2 2 [iD ak,sD av,iD pk,sD pv])),(76,iv 2),(77,iv i)],[(1,[iv 5,.d (sD oid),.d (sD tx),.d (Af false by'),.d (Hf nm),iv ak,.d (sD av),iv pk,.d (sD pv)])],[(8,((NO pre (Ah 2 1 true (txE pk pv)) i).length,1,5))]⟩) 0 ⟨by omega,by omega,by omega⟩ leQ ?_
  rintro i ⟨hi,hA,hP⟩
  match i,hi with
  |0,_=>
   cases z
   ·cases ha:Al ak av
    ·have hF:=IA s5 ha
     rw[show((false||false)&&Al pk pv)=false by rfl,if_neg (by simp)]
     (repeat'((conv=>whnf);first|refine Ac ?_|refine Ay asP ?_|refine Px 0 ?_|refine As (Ea rfl rfl (ltN rfl) rfl rfl) ?_|refine Aa hF rfl ?_|exact zE))
    ·have hF:=HU s5 ha
     have h1:=Gh ha s5
     have hX:=Js 0 (txE ak av) (by omega) (by omega)
     have h2:=Ar 2 0 true (txE ak av) (by omega)
     rw[if_neg (by simp)] at hpre
     rw[←hpre]
     (repeat'((conv=>whnf);first|refine Ac ?_|refine Ae ?_|refine Ay asP ?_|refine Px 0 ?_|refine As (Ea rfl rfl (ltN rfl) rfl rfl) ?_|refine Aa hF rfl ?_|refine Aa hX Lk ?_|(refine NApp.bytes ?_ (by show([]:List UInt8).length+_≤_;simp only[List.length_nil];omega))|(with_reducible refine NInt.i64 ?_)));(all_goals(conv=>whnf))
     refine⟨1,⟨by omega,fun _=>rfl,by omega⟩,by omega,?_⟩
     exact leQ
   ·rw[if_pos rfl] at hpre
    rw[←hpre]
    (repeat'((conv=>whnf);first|refine Ac ?_|refine Aw asP ?_|refine Px 0 ?_|refine As (Ea rfl rfl (ltN rfl) rfl rfl) ?_|(with_reducible refine NInt.i64 ?_)));(all_goals(conv=>whnf))
    refine⟨1,⟨by omega,fun _=>rfl,by omega⟩,by omega,?_⟩
    exact leQ
  |1,_=>
   have hA:=hA (by omega)
   have hpl:=hprel hA
   cases hp:Al pk pv
   ·have hF:=IA s6 hp
    rw[Bool.and_false,if_neg (by simp)]
    (repeat'((conv=>whnf);first|refine Ac ?_|refine Ae ?_|refine Px 1 ?_|refine Aa hF rfl ?_|exact zE))
   ·have hF:=HU s6 hp
    have h1:=Gh hp s6
    have hX:=Js 1 (txE pk pv) (by omega) (by omega)
    have h2:=Ar 2 1 true (txE pk pv) (by omega)
    (repeat'((conv=>whnf);first|refine Ac ?_|refine Ae ?_|refine Px 1 ?_|refine Aa hF rfl ?_|refine Aa hX Lk ?_|(refine NApp.bytes ?_ (by show pre.length+_≤_;omega))|(with_reducible refine NInt.i64 ?_)));(all_goals(conv=>whnf))
    refine⟨2,⟨by omega,fun _=>hA,fun _=>rfl⟩,by omega,?_⟩
    exact leQ
  |2,_=>
   rw[hA (by omega),hP (by omega)]
   (repeat'((conv=>whnf);refine Ae ?_));(all_goals(conv=>whnf))
   all_goals exact zE
 case inl.inr.inr.inr.inr.inr.inr.inr.inr=>
  subst h
  rw[if_neg (by decide),if_neg (by decide),if_neg (by decide),if_neg (by decide),if_neg (by decide),if_pos rfl]
  cases ho:E4 oid
  ·rw[(Tu ho).1,(Tu ho).2] at hE
   show Ab _ _ _ (fun r=>r= .tup [.d (Af false []),iv 8])
   refine acQ 118 Tryz.func66 rfl rfl fun _ _ _=> ?_
   (repeat'((conv=>whnf);first|refine Ac ?_|refine Ae ?_|refine Aa hE rfl ?_|exact zE))
  ·rw[(Rp oid).1 ho] at hE
   show Ab _ _ _ (fun r=>r= .tup [.d (Af false (Bo oid)),iv 0])
   refine acQ 118 Tryz.func66 rfl rfl fun _ _ _=> ?_
   (repeat'((conv=>whnf);first|refine Ac ?_|refine Ae ?_|refine Aa hE rfl ?_|exact zE))
 case inl.inr.inr.inr.inl=>
  subst h
  rw[if_neg (by decide),if_neg (by decide),if_pos (by decide)]
  show Ab _ _ _ (fun r=>r= .tup [.d (Af false by'),iv 0])
  refine acQ 118 Tryz.func66 rfl rfl fun _ _ _=> ?_
  (repeat'((conv=>whnf);first|refine Ac ?_|refine Ae ?_|exact zE))
 case inl.inr.inr.inr.inr.inr.inr.inr.inl=>
  subst h
  rw[if_neg (by decide),if_neg (by decide),if_pos (by decide)]
  show Ab _ _ _ (fun r=>r= .tup [.d (Af false by'),iv 0])
  refine acQ 118 Tryz.func66 rfl rfl fun _ _ _=> ?_
  (repeat'((conv=>whnf);first|refine Ac ?_|refine Ae ?_|exact zE))
 all_goals
  subst h
  rw[if_neg (by decide),if_pos (by decide)]
  unfold Fc Ix at hT
  cases hv:Al 22 tx
  ·rw[hv] at hT
   show Ab _ _ _ (fun r=>r= .tup [.d (Af false []),iv 8])
   refine acQ 118 Tryz.func66 rfl rfl fun _ _ _=> ?_
   (repeat'((conv=>whnf);first|refine Ac ?_|refine Ae ?_|refine Aa hT rfl ?_|exact zE))
  ·rw[hv] at hT
   show Ab _ _ _ (fun r=>r= .tup [.d (Af false (chS 22 tx)),iv 0])
   refine acQ 118 Tryz.func66 rfl rfl fun _ _ _=> ?_
   (repeat'((conv=>whnf);first|refine Ac ?_|refine Ae ?_|refine Aa hT rfl ?_|exact zE))
end Go.Proofs.YtaoahmplnckhpaaGreatDoor
