/- MO: the texts Att Att2 Dn Dn2 GenP GenQ GenC, one behind the other. No condition but what each lemma says. -/
import Derived.Test.YtgpaehhbdbgeaaaGreatDoorME
import Derived.Test.YtgpaehhbdbgeaaaGreatDoorMM
import Derived.Test.YtgpaehhbdbgeaaaGreatDoorMI
import Derived.Test.YtgpaehhbdbgeaaaGreatDoorMJ
set_option maxRecDepth 100000
set_option maxHeartbeats 16000000
namespace Go.Proofs.YtgpaehhbdbgeaaaGreatDoor
open Go.RowKit
def H6 (b:List UInt8):Nat:=(C4 b).code
def Jp (b:List UInt8):Nat:=(C4 b).off
theorem Yl (b:List UInt8):Jp b≤b.length:=by
 have hF:=Ek b 16 b.length (by omega) 0 (by omega)
 dsimp only at hF
 unfold Jp C4
 generalize Az b 16 0 b.length=r at hF
 by_cases h:r.code=0
 ·obtain⟨s,rfl,h1,h2⟩:=hF.1 h
  by_cases h3:s.stop<b.length
  ·rw[Fu h3];exact h2
  ·rw[H3 h3];exact Nat.zero_le _
 ·obtain⟨h1,h2⟩:=hF.2 h
  obtain⟨l,c,o⟩:=r
  have hl:l=[]:=h2
  subst hl
  rw[Gr];exact h1
theorem Rf (b:List UInt8) (hb:b.length≤1000000000):(H6 b=0∧∃(a q m:Nat) (k:Bool) (l:List UInt8) (cs:List D),Ab Tryz.prog 160 [.d (Ac false b)] (fun r=>r= .tup [.agg [iv a,iv q,bv k,.d (Ac true l),.d (.sl true m 5 cs)],erA 0 0]))∨
 (H6 b≠0∧Ab Tryz.prog 160 [.d (Ac false b)] (fun r=>r= .tup [.agg [iv 0,iv 0,bv false,Ay,Ay],erA (H6 b) (Jp b)])):=by
 have hP:=kG b hb
 unfold H6 Jp
 rcases kH b with⟨s,h⟩|⟨c,o,hc0,h⟩
 ·rw[h] at hP⊢
  obtain⟨a,q,c,n,k,b',ks⟩:=s
  exact .inl ⟨rfl,c,n,ks.length,k,b',Hh true ks,hP⟩
 ·rw[h] at hP⊢
  refine .inr ⟨hc0,?_⟩
  cases c with
  |zero=>exact absurd rfl hc0
  |succ c=>exact hP
def Rg (b:List UInt8):List UInt8:=(b.drop (Ap b).x.body).take ((Ap b).x.stop-(Ap b).x.body)
def Om (b:List UInt8):Bool:=(Ap b).code==0&&((Ap b).x.c==0&& !(Ap b).x.k)
def Kk (b:List UInt8):Int:=if Om b then G9 (Ap b).x.n (Rg b) else 0
def Ns (b:List UInt8):List UInt8:=if Om b then C9 (Ap b).x.n (Rg b) else []
def Vh (b:List UInt8):Bool:=Om b&&Dw (Ap b).x.n (Rg b)==0
theorem pR (b:List UInt8):(Rg b).length≤b.length:=by
 unfold Rg;rw[List.length_take,List.length_drop];omega
theorem Iu {p:Prop} (h:p:=by first|rfl|(simp only[AV.gives,AV.ren,AV.give,D.un,D.uns,Ag,Ai,List.nil_append,List.append_nil,List.cons_append,Al,Dq,Ds,Bd,Aw,Cd];first|done|rfl)):p:=h
theorem Vi (b:List UInt8) (hb:b.length≤1000000):Ab Tryz.prog 248 [.d (Ac false b)] (fun r=>r= .tup [txA (Kk b) (Ns b),bv (Vh b)]):=by
 have hO:=Im b (by omega)
 have hF:=Cm b
 have hD:=L6 (Ap b).x.n (Rg b) (by have:=pR b;omega)
 unfold Kk Ns Vh
 have gs:Om b=((Ap b).code==0&&((Ap b).x.c==0&& !(Ap b).x.k)):=rfl
 unfold Rg at hD⊢
 generalize Om b=q at gs⊢
 generalize Ap b=r at hO hF hD gs⊢
 obtain⟨⟨c,n,k,p,body,stop⟩,cd,of⟩:=r
 simp only at hF hD gs⊢
 by_cases h1:cd=0
 case neg=>
  have g1:((cd:Int) !=0)=true:=by rw[bne_iff_ne];omega
  have gq:q=false:=by rw[gs,show(cd==0)=false by rw[beq_eq_false_iff_ne];exact h1];rfl
  subst gq
  refine acQ 41 Tryz.func248 rfl rfl fun _ _ _=> ?_
  (repeat'((conv=>whnf);first|refine NBr.yes ?_|refine NBr.pos asP ?_|refine NCall.eq hO Iu ?_));(all_goals(conv=>whnf))
  all_goals exact NEnd.eq leQ
 subst h1
 by_cases h2:c=0
 case neg=>
  have g1:((c:Int) !=0)=true:=by rw[bne_iff_ne];omega
  have gq:q=false:=by rw[gs,show(c==0)=false by rw[beq_eq_false_iff_ne];exact h2];rfl
  subst gq
  refine acQ 41 Tryz.func248 rfl rfl fun _ _ _=> ?_
  (repeat'((conv=>whnf);first|refine NBr.yes ?_|refine NBr.no ?_|refine NBr.pos asP ?_|refine NCall.eq hO Iu ?_));(all_goals(conv=>whnf))
  all_goals exact NEnd.eq leQ
 subst h2
 cases k
 ·have gq:q=true:=gs
  subst gq
  generalize G9 n ((b.drop body).take (stop-body))=K at hD⊢
  generalize C9 n ((b.drop body).take (stop-body))=V at hD⊢
  generalize Dw n ((b.drop body).take (stop-body))=Z at hD⊢
  refine acQ 41 Tryz.func248 rfl rfl fun _ _ _=> ?_
  (repeat'((conv=>whnf);first|refine NBr.no ?_|refine NCall.eq hO Iu ?_|refine NSl.slice (body) (stop) ?_|refine NCall.eq hD Iu ?_|refine NFact.go ⟨by decide+kernel,by kernel_rfl⟩ ?_));(all_goals(conv=>whnf))
  all_goals exact NEnd.eq leQ
 ·have gq:q=false:=gs
  subst gq
  refine acQ 41 Tryz.func248 rfl rfl fun _ _ _=> ?_
  (repeat'((conv=>whnf);first|refine NBr.yes ?_|refine NBr.no ?_|refine NCall.eq hO Iu ?_));(all_goals(conv=>whnf))
  all_goals exact NEnd.eq leQ
def txE (k:Int) (l:List UInt8):List UInt8:=Ae 0 k.toNat false (chS k l)
def frS (k:Int) (l:List UInt8):AV:=if Ah k l=true then .tup [B7 0 5 (txE k l),iv 0] else .tup [Ay,iv 8]
theorem Rh {k:Int} {l:List UInt8} (h:Ah k l=true):∃n:Nat,12≤n∧n≤30∧k=n:=by
 have hk:¬Aj k<0:=fun hw=>by rw[N3 hw] at h;cases h
 rcases Fq k hk with h|h|h|h|h|h|h<;>exact⟨k.toNat,by omega,by omega,by omega⟩
theorem Kg {k:Int} {l:List UInt8} (h:Ah k l=true):(chS k l).length≤4*l.length:=by
 have hv:Go.Lib.validD l=true:=by unfold Ah at h;simp at h;exact h.1.1
 rw[←gK h]
 have hl:(rns l).length≤l.length:=by
  have:=congrArg List.length (Hj l hv)
  have h1:∀q:List Nat,q.length≤(q.flatMap enc).length:=by
   intro q
   induction q with
   |nil=>simp
   |cons a r ih=>rw[List.flatMap_cons,List.length_append,List.length_cons];have:=(F5 a).1;omega
  have:=h1 (rns l)
  omega
 have hw:Aj k≤4:=by unfold Aj;(repeat' split)<;>omega
 have h2:∀q:List Nat,(q.flatMap (Zk (Aj k))).length≤4*q.length:=by
  intro q
  induction q with
  |nil=>simp
  |cons a r ih=>rw[List.flatMap_cons,List.length_append,List.length_cons];have:=lG (Aj k) a hw;omega
 have:=h2 (rns l)
 omega
theorem Jq (k:Int) (l:List UInt8) (hl:l.length≤16777216):Ab Tryz.prog 129 [txA k l] (fun r=>r=frS k l):=by
 have hE:=L5 k l (by omega)
 unfold frS
 unfold I9 T8 at hE
 by_cases hv:Ah k l=true
 ·rw[if_pos hv]
  rw[if_pos hv,if_pos hv] at hE
  obtain⟨n,n1,n2,rfl⟩:=Rh hv
  have h4:=Kg hv
  have hW:=Cj 0 n false (chS (n:Int) l) (by omega) n2 (by omega)
  have e:txE (n:Int) l=Ae 0 n false (chS (n:Int) l):=by unfold txE;rw[Int.toNat_natCast]
  rw[e]
  refine acQ 20 Tryz.func129 rfl rfl fun _ _ _=> ?_
  (repeat'((conv=>whnf);first|refine NBr.no ?_|refine NCall.eq hE rfl ?_|refine NCall.eq hW Iu ?_));(all_goals(conv=>whnf))
  all_goals exact NEnd.eq leQ
 ·rw[if_neg hv]
  rw[if_neg hv,if_neg hv] at hE
  refine acQ 20 Tryz.func129 rfl rfl fun _ _ _=> ?_
  (repeat'((conv=>whnf);first|refine NBr.yes ?_|refine NCall.eq hE rfl ?_));(all_goals(conv=>whnf))
  all_goals exact NEnd.eq leQ
theorem pS (k:Int):Ab Tryz.prog 249 [iv k] (fun r=>r=bv (k==22||k==26)):=by
 refine acQ 9 Tryz.func249 rfl rfl fun _ _ _=> ?_
 (repeat'((conv=>whnf);first|refine NBr.yes ?_|refine NBr.no ?_|(refine NBr.dec (fun hc hcP=> ?_) (fun hc hcP=> ?_)<;>try(exfalso;omega))));(all_goals(conv=>whnf))
 all_goals(refine NEnd.eq ?_;(repeat'(first|refine And.intro ?_ ?_|exact rfl));(all_goals(conv=>whnf)))
 all_goals(simp_all)
def D9 (b:List UInt8):Bool:=Vh b&&(!(Ns b==[])&& !(Kk b==22||Kk b==26))
def yR (b:List UInt8):AV:=if D9 b=true then .tup [txA (Kk b) (Ns b),bv true] else .tup [txA 0 [],bv false]
theorem Sm (b:List UInt8) (hb:b.length≤1000000):Ab Tryz.prog 223 [.d (Ac false b)] (fun r=>r=yR b):=by
 have hS:=Vi b hb
 have h1:=pS (Kk b)
 unfold yR
 have gs:D9 b=(Vh b&&(!(Ns b==[])&& !(Kk b==22||Kk b==26))):=rfl
 generalize D9 b=q at gs⊢
 generalize Kk b=K at hS h1 gs⊢
 generalize Ns b=V at hS gs⊢
 generalize Vh b=Z at hS gs
 generalize (K==22||K==26)=O at h1 gs
 cases Z
 ·subst gs
  refine acQ 27 Tryz.func223 rfl rfl fun _ _ _=> ?_
  (repeat'((conv=>whnf);first|refine NBr.yes ?_|refine NCall.eq hS Iu ?_));(all_goals(conv=>whnf))
  all_goals exact NEnd.eq leQ
 ·cases hv:(V==[])
  ·rw[hv] at gs
   cases O
   all_goals
    subst gs
    refine acQ 27 Tryz.func223 rfl rfl fun _ _ _=> ?_
    (repeat'((conv=>whnf);first|refine NBr.yes ?_|refine NBr.no ?_|refine NBr.neg asP ?_|refine NCall.eq hS Iu ?_|refine NCall.eq h1 rfl ?_));(all_goals(conv=>whnf))
    all_goals exact NEnd.eq leQ
  ·rw[hv] at gs
   subst gs
   refine acQ 27 Tryz.func223 rfl rfl fun _ _ _=> ?_
   (repeat'((conv=>whnf);first|refine NBr.yes ?_|refine NBr.no ?_|refine NBr.pos asP ?_|refine NCall.eq hS Iu ?_));(all_goals(conv=>whnf))
   all_goals exact NEnd.eq leQ
def atV (a:Att):Bool:=Ft a.oid&&Fx a.val
theorem Pc (b:List UInt8):Fx b=(H6 b==0):=rfl
theorem Bv {p:Prop} (h:p:=by first|rfl|(simp only[AV.gives,AV.ren,AV.give,D.un,D.uns,Ag,Ai,List.nil_append,List.append_nil,List.cons_append,Al,Dq,Ds,Bd,Aw,Cd];first|done|rfl)):p:=h
theorem Ym (a:Att) (ho:a.oid.length≤4000000) (hv:a.val.length≤1000000000):Ab Tryz.prog 123 [atA a] (fun r=>r=bv (atV a)):=by
 have hV:=U7 a.oid ho
 unfold atV
 rw[Pc]
 generalize Ft a.oid=V at hV⊢
 rcases Rf a.val hv with⟨h1,ta,tq,tm,tk,tl,tcs,hT⟩|⟨h1,hT⟩
 ·rw[h1]
  cases V
  all_goals
   refine acQ 19 Tryz.func123 rfl rfl fun _ _ _=> ?_
   (repeat'((conv=>whnf);first|refine NBr.yes ?_|refine NBr.no ?_|refine NCall.eq hT Bv ?_|refine NCall.eq hV rfl ?_));(all_goals(conv=>whnf))
   all_goals exact NEnd.eq leQ
 ·generalize Jp a.val=tO at hT
  generalize H6 a.val=tc at hT h1⊢
  have g1:((tc:Int)==0)=false:=by rw[beq_eq_false_iff_ne];omega
  have g2:(tc==0)=false:=by rw[beq_eq_false_iff_ne];exact h1
  cases V
  all_goals
   refine acQ 19 Tryz.func123 rfl rfl fun _ _ _=> ?_
   (repeat'((conv=>whnf);first|refine NBr.yes ?_|refine NBr.no ?_|refine NCall.eq hT Bv ?_|refine NCall.eq hV rfl ?_));(all_goals(conv=>whnf))
   all_goals(refine NEnd.eq ?_;(repeat'(first|exact B8 _|refine And.intro ?_ ?_|exact rfl));(all_goals(conv=>whnf)))
  all_goals(rw[g1,g2];try rfl)
def atE (a:Att):List UInt8:=Ae 0 16 true (Ae 0 6 false (Bj a.oid)++a.val)
theorem Vj {a:Att} (h:atV a=true):Ft a.oid=true∧Fx a.val=true:=by
 unfold atV at h;simpa using h
theorem Sn (a:Att) (ho:a.oid.length≤4000000) (hv:a.val.length≤100000000):Ab Tryz.prog 89 [atA a] (fun r=>r=if atV a=true then .tup [B7 0 5 (atE a),iv 0] else .tup [Ay,iv 8]):=by
 have hV:=Ym a ho (by omega)
 by_cases h:atV a=true
 ·rw[if_pos h]
  rw[h] at hV
  have hE:=Q5 a.oid ho
  rw[(Nl a.oid).1 (Vj h).1] at hE
  have k1:=H4 a.oid
  have hW:=Cj 0 6 false (Bj a.oid) (by omega) (by omega) (by omega)
  have k2:=Ao 0 6 false (Bj a.oid) (by omega)
  have hQ:=L4 [Ae 0 6 false (Bj a.oid),a.val] (by simp;omega) (by simp)
  rw[show Ae 0 16 true [Ae 0 6 false (Bj a.oid),a.val].flatten=atE a by simp[atE]] at hQ
  refine acQ 35 Tryz.func89 rfl rfl fun _ _ _=> ?_
  (repeat'((conv=>whnf);first|refine NBr.no ?_|refine NCall.eq hV Bv ?_|refine NCall.eq hE rfl ?_|refine NCall.eq hW Bv ?_|refine NCall.eq hQ Bv ?_));(all_goals(conv=>whnf))
  all_goals exact NEnd.eq leQ
 ·rw[if_neg h]
  rw[show atV a=false by simpa using h] at hV
  refine acQ 35 Tryz.func89 rfl rfl fun _ _ _=> ?_
  (repeat'((conv=>whnf);first|refine NBr.yes ?_|refine NCall.eq hV Bv ?_));(all_goals(conv=>whnf))
  all_goals exact NEnd.eq leQ
def atO (b:List UInt8):Option Att:=match Yj b with
 |some (id,s)=>if Fx s=true then some ⟨id,s⟩ else none
 |none=>none
def Ri (b:List UInt8) (r:LR):Nat×Nat:=if r.code≠0 then(r.code,r.off) else match r.l with
 |[x,y]=>if x.isB 0 6 false=false then(3,x.at') else if odC (bod b x)≠0 then(odC (bod b x),x.body) else(H6 (elO b y),y.at'+Jp (elO b y))
 |_::_::z::_=>(2,z.at')
 |_=>(1,b.length)
def atU (a:Att):List D:=[sD a.oid,Ac true a.val]
def atR (o:Option Att) (e:Nat×Nat):AV:=match o with
 |some a=> .tup [.agg [sx a.oid,.d (Ac true a.val)],erA 0 0]
 |none=> .tup [.agg [sx [],Ay],erA e.1 e.2]
theorem Ea (c o:Int):Ab Tryz.prog 228 [iv c,iv o] (fun r=>r= .tup [.agg [sx [],Ay],.agg [iv c,iv o]]):=by
 refine acQ 10 Tryz.func228 rfl rfl fun _ _ _=> ?_
 (all_goals(conv=>whnf))
 all_goals exact NEnd.eq leQ
theorem Yn (b:List UInt8) (hb:b.length≤800000):Ab Tryz.prog 187 [.d (Ac false b)] (fun r=>r=atR (atO b) (Ri b (An b 0 16))):=by
 have hP:=Hy b 0 16 (by omega)
 have hin:=fun x=>C5 (b:=b) (c:=0) (n:=16) (x:=x)
 have hO:atO b=match Yi b (An b 0 16) with
  |some (id,s)=>if Fx s=true then some ⟨id,s⟩ else none
  |none=>none:=rfl
 generalize An b 0 16=r at hP hin hO⊢
 by_cases h1:r.code≠0
 ·rw[Ve (.inl h1)] at hO
  rw[hO]
  have hF:=Ea r.code r.off
  rw[lrA,if_pos h1] at hP
  have gc:((r.code:Int) !=0)=true:=by rw[bne_iff_ne];omega
  rw[Ri,if_pos h1]
  generalize r.code=c at hP gc hF
  generalize r.off=o at hP hF
  refine acQ 127 Tryz.func187 rfl rfl fun _ _ _=> ?_
  (repeat'((conv=>whnf);first|refine NBr.pos asP ?_|refine NCall.eq hP Bv ?_|refine NCall.eq hF rfl ?_));(all_goals(conv=>whnf))
  all_goals exact NEnd.eq leQ
 rw[lrA,if_neg h1] at hP
 rw[Ri,if_neg h1]
 obtain⟨l,c,o⟩:=r
 obtain rfl:c=0:=Decidable.not_not.1 h1
 match l with
 |[]=>
  have e:atO b=none:=hO
  rw[e]
  have hF:=Ea 1 b.length
  refine acQ 127 Tryz.func187 rfl rfl fun _ _ _=> ?_
  (repeat'((conv=>whnf);first|refine NBr.yes ?_|refine NBr.no ?_|refine NCall.eq hP Bv ?_|refine NCall.eq hF rfl ?_));(all_goals(conv=>whnf))
  all_goals exact NEnd.eq leQ
 |[x]=>
  have e:atO b=none:=hO
  rw[e]
  have hF:=Ea 1 b.length
  refine acQ 127 Tryz.func187 rfl rfl fun _ _ _=> ?_
  (repeat'((conv=>whnf);first|refine NBr.yes ?_|refine NBr.no ?_|refine NCall.eq hP Bv ?_|refine NCall.eq hF rfl ?_));(all_goals(conv=>whnf))
  all_goals exact NEnd.eq leQ
 |x::y::z::q=>
  have e:atO b=none:=hO
  rw[e]
  have hF:=Ea 2 z.at'
  have g2:(x::y::z::q:List El)[2]?=some z:=rfl
  refine acQ 127 Tryz.func187 rfl rfl fun _ _ _=> ?_
  (repeat'((conv=>whnf);first|refine NBr.no ?_|refine NCall.eq hP Bv ?_|refine NIdx.tab (fun _=>rfl) g2 ?_|refine NCall.eq hF rfl ?_|(refine NBr.mk (fun hc=> ?_) (fun hc=> ?_)<;>(have hcP:=hc;(try simp only[List.length_cons,decide_eq_true_eq,decide_eq_false_iff_not] at hcP)<;>first|(exfalso;omega)|skip))));(all_goals(conv=>whnf))
  all_goals exact NEnd.eq leQ
 |[x,y]=>
  obtain⟨x1,x2,x3⟩:=hin x (by simp)
  obtain⟨y1,y2,y3⟩:=hin y (by simp)
  have hI:=Ni x 0 6 false
  have hlb:(bod b x).length≤b.length:=by unfold bod;rw[List.length_take,List.length_drop];omega
  have hly:(elO b y).length≤b.length:=by unfold elO;rw[List.length_take,List.length_drop];omega
  have hD:=Le (bod b x) (by omega)
  have hC:=Hx (elO b y) (by omega)
  have hT:=Rf (elO b y) (by omega)
  have hto:=Yl (elO b y)
  have hop:=Pc (elO b y)
  have g0:([x,y]:List El)[0]?=some x:=rfl
  have g1:([x,y]:List El)[1]?=some y:=rfl
  have hO':atO b=match(if x.isB 0 6 false=true∧odC (bod b x)=0 then some (odT (bod b x),elO b y) else none:Option (List UInt8×List UInt8)) with
   |some (id,s)=>if Fx s=true then some ⟨id,s⟩ else none
   |none=>none:=hO
  show Ab _ _ _ (fun r=>r=atR (atO b) (if x.isB 0 6 false=false then(3,x.at') else if odC (bod b x)≠0 then(odC (bod b x),x.body) else(H6 (elO b y),y.at'+Jp (elO b y))))
  cases hi:x.isB 0 6 false
  ·rw[hi] at hI hO'
   rw[if_neg (by simp)] at hO'
   rw[hO',if_pos rfl]
   have hF:=Ea 3 x.at'
   refine acQ 127 Tryz.func187 rfl rfl fun _ _ _=> ?_
   (repeat'((conv=>whnf);first|refine NBr.yes ?_|refine NBr.no ?_|refine NCall.eq hP Bv ?_|refine NIdx.tab (fun _=>rfl) g0 ?_|refine NCall.eq hI rfl ?_|refine NCall.eq hF rfl ?_));(all_goals(conv=>whnf))
   all_goals exact NEnd.eq leQ
  rw[hi] at hI hO'
  rw[if_neg (by simp)]
  by_cases h3:odC (bod b x)=0
  ·rw[if_pos ⟨rfl,h3⟩] at hO'
   rw[if_neg (by omega)]
   have hO2:atO b=if Fx (elO b y)=true then some ⟨odT (bod b x),elO b y⟩ else none:=hO'
   rw[U8,h3] at hD
   rw[hop] at hO2
   unfold bod at hD hlb hO2
   generalize odT ((b.drop x.body).take (x.stop-x.body))=ot at hD hO2
   unfold elO at hC hT hto hly hO2⊢
   rcases hT with⟨h4,ta,tq,tm,tk,tl,tcs,hT⟩|⟨h4,hT⟩
   ·rw[h4] at hO2
    rw[if_pos (by rfl)] at hO2
    rw[hO2]
    refine acQ 127 Tryz.func187 rfl rfl fun _ _ _=> ?_
    (repeat'((conv=>whnf);first|refine NBr.no ?_|refine NCall.eq hP Bv ?_|refine NIdx.tab (fun _=>rfl) g0 ?_|refine NIdx.tab (fun _=>rfl) g1 ?_|refine NCall.eq hI rfl ?_|refine NSl.slice (x.body) (x.stop) ?_|refine NSl.slice (y.at') (y.stop) ?_|refine NCall.eq hD Bv ?_|refine NCall.eq hC Bv ?_|refine NCall.eq hT Bv ?_|refine NFact.go ⟨by decide+kernel,by kernel_rfl⟩ ?_));(all_goals(conv=>whnf))
    all_goals exact NEnd.eq leQ
   ·rw[if_neg (by rw[beq_iff_eq];exact h4)] at hO2
    rw[hO2]
    have gd:((H6 ((b.drop y.at').take (y.stop-y.at')):Int) !=0)=true:=by rw[bne_iff_ne];omega
    have hF:=Ea (H6 ((b.drop y.at').take (y.stop-y.at'))) ((y.at'+Jp ((b.drop y.at').take (y.stop-y.at')):Nat):Int)
    generalize Jp ((b.drop y.at').take (y.stop-y.at'))=tO at hT hto hF⊢
    generalize H6 ((b.drop y.at').take (y.stop-y.at'))=tC at hT h4 gd hF⊢
    refine acQ 127 Tryz.func187 rfl rfl fun _ _ _=> ?_
    (repeat'((conv=>whnf);first|refine NBr.no ?_|refine NBr.pos asP ?_|refine NCall.eq hP Bv ?_|refine NIdx.tab (fun _=>rfl) g0 ?_|refine NIdx.tab (fun _=>rfl) g1 ?_|refine NCall.eq hI rfl ?_|refine NSl.slice (x.body) (x.stop) ?_|refine NSl.slice (y.at') (y.stop) ?_|refine NCall.eq hD Bv ?_|refine NCall.eq hC Bv ?_|refine NCall.eq hT Bv ?_|refine NInt.as (((y.at'+tO:Nat):Int)) ((by rw[IntWalk.i64_in _ (by omega)];omega)) ?_|refine NCall.eq hF rfl ?_|refine NFact.go ⟨by decide+kernel,by kernel_rfl⟩ ?_));(all_goals(conv=>whnf))
    all_goals exact NEnd.eq leQ
  ·rw[if_neg (fun h=>h3 h.2)] at hO'
   rw[hO',if_pos h3]
   have gd:((odC (bod b x):Int) !=0)=true:=by rw[bne_iff_ne];omega
   have hF:=Ea (odC (bod b x)) x.body
   rw[U8] at hD
   unfold bod at hD gd hF⊢
   generalize odC ((b.drop x.body).take (x.stop-x.body))=oc at hD gd hF⊢
   generalize odT ((b.drop x.body).take (x.stop-x.body))=ot at hD
   refine acQ 127 Tryz.func187 rfl rfl fun _ _ _=> ?_
   (repeat'((conv=>whnf);first|refine NBr.no ?_|refine NBr.pos asP ?_|refine NCall.eq hP Bv ?_|refine NIdx.tab (fun _=>rfl) g0 ?_|refine NCall.eq hI rfl ?_|refine NSl.slice (x.body) (x.stop) ?_|refine NCall.eq hD Bv ?_|refine NCall.eq hF rfl ?_|refine NFact.go ⟨by decide+kernel,by kernel_rfl⟩ ?_));(all_goals(conv=>whnf))
   all_goals exact NEnd.eq leQ
theorem Yo (b:List UInt8):atO b=none→(Ri b (An b 0 16)).1≠0∧(Ri b (An b 0 16)).2≤b.length:=by
 have hin:=fun x=>C5 (b:=b) (c:=0) (n:=16) (x:=x)
 have hoff:=Gs b 0 16
 have hO:atO b=match Yi b (An b 0 16) with
  |some (id,s)=>if Fx s=true then some ⟨id,s⟩ else none
  |none=>none:=rfl
 rw[hO]
 generalize An b 0 16=r at hin hoff⊢
 intro h
 unfold Ri
 by_cases h1:r.code≠0
 ·rw[if_pos h1];exact⟨h1,hoff⟩
 rw[if_neg h1]
 obtain⟨l,c,o⟩:=r
 obtain rfl:c=0:=Decidable.not_not.1 h1
 match l with
 |[]=>exact⟨by simp,Nat.le_refl _⟩
 |[x]=>exact⟨by simp,Nat.le_refl _⟩
 |x::y::z::q=>
  have:=hin z (by simp)
  exact⟨by simp,by show z.at'≤_;omega⟩
 |[x,y]=>
  have hx:=hin x (by simp)
  have hy:=hin y (by simp)
  have hl:(elO b y).length≤y.stop-y.at':=by unfold elO;rw[List.length_take];omega
  have hto:=Yl (elO b y)
  have h':(match(if x.isB 0 6 false=true∧odC (bod b x)=0 then some (odT (bod b x),elO b y) else none:Option (List UInt8×List UInt8)) with
   |some (id,s)=>if Fx s=true then some (⟨id,s⟩:Att) else none
   |none=>none)=none:=h
  simp only
  cases hi:x.isB 0 6 false
  ·rw[if_pos rfl];exact⟨by simp,by show x.at'≤_;omega⟩
  rw[if_neg (by simp)]
  by_cases h3:odC (bod b x)=0
  ·rw[if_neg (by omega)]
   rw[if_pos ⟨hi,h3⟩] at h'
   have h2:(if Fx (elO b y)=true then some (⟨odT (bod b x),elO b y⟩:Att) else none)=none:=h'
   rw[Pc] at h2
   refine⟨fun e=> ?_,by show y.at'+Jp (elO b y)≤_;omega⟩
   have e:H6 (elO b y)=0:=e
   rw[e,if_pos (by rfl)] at h2;cases h2
  ·rw[if_pos h3];exact⟨h3,by show x.body≤_;omega⟩
def E4 (r:List Att):Bool:= !r.isEmpty&&(r.all atV&&F1 (r.map atE))
def C6 (r:List Att):List UInt8:=Ae 0 17 true (r.map atE).flatten
def nmV (n:List (List Att)):Bool:=n.all E4
def nmE (n:List (List Att)):List UInt8:=Ae 0 16 true (n.map C6).flatten
theorem Pd {r:List Att} (h:E4 r=true):r≠[]∧r.all atV=true∧F1 (r.map atE)=true:=by
 unfold E4 at h
 simp only[Bool.and_eq_true] at h
 exact⟨by rintro rfl;simp at h,h.2.1,h.2.2⟩
theorem Vk {α:Type} {f:α→Bool} {l:List α} {i:Nat} {x:α} (h:l[i]?=some x) (hf:f x=false):l.all f=false:=by
 cases hh:l.all f with
 |false=>rfl
 |true=>rw[List.all_eq_true.1 hh x (List.mem_of_getElem? h)] at hf;cases hf
theorem H7 {p:Prop} (h:p:=by first|rfl|(simp only[AV.gives,AV.ren,AV.give,D.un,D.uns,Ag,Ai,List.nil_append,List.append_nil,List.cons_append,List.map_cons,List.map_nil,AV.frzs,AV.frz,List.drop_zero,Al,Dq,Ds,Bd,Aw,Cd,Dk,Bk];first|done|rfl)):p:=h
theorem cI (r:List Att) (i:Nat) {x:Att} (hg:r[i]?=some x) (hx:x.oid.length≤4000000∧x.val.length≤100000000):Ab Tryz.prog 88 [iv i,.d (.cp false [Gp r])] (fun r=>r=if atV x=true then .tup [B7 0 5 (atE x),iv 0] else .tup [Ay,iv 8]):=by
 have hM:=Sn x hx.1 hx.2
 by_cases h:atV x=true
 all_goals
  first|rw[if_pos h] at hM⊢ |rw[if_neg h] at hM⊢
  refine acQ 12 Tryz.func88 rfl rfl fun _ _ _=> ?_
  (repeat'((conv=>whnf);first|refine NIdx.tab (fun _=>rfl) hg ?_|refine NCall.eq hM H7 ?_));(all_goals(conv=>whnf))
  all_goals exact NEnd.eq leQ
theorem Vm (r:List Att) (hl:r.length≤100000) (hs:∀x∈r,x.oid.length≤4000000∧x.val.length≤100000000) (hq:(r.map atE).flatten.length≤100000000) (hp:∀x∈r,(atE x).length≤100000000):Ab Tryz.prog 87 [.agg [iv 17,bv true],iv r.length,.cl 88 [] [.d (.cp false [Gp r])]] (fun q=>q=if r.all atV=true∧F1 (r.map atE)=true then .tup [B7 0 5 (Ae 0 17 true (r.map atE).flatten),iv 0] else .tup [Ay,iv 8]):=by
 have hW:=L3 0 17 true (r.map atE) (by omega) (by omega) (by omega) (by rw[List.length_map];omega)
 have hO2:=Of (r.map atE) (by rw[List.length_map];omega) (fun p hp0=>by
  obtain⟨x,hx,rfl⟩:=List.mem_map.1 hp0
  have:=hp x hx;omega)
 refine acQ 43 Tryz.func87 rfl rfl fun _ _ _=> ?_
 (all_goals(conv=>whnf))
 refine NLoop.goA [.s 8 1 33] (fun i:Nat=>i≤r.length∧(r.take i).all atV=true) (fun i=>r.length-i) (fun i=>⟨[(2,.cl 88 [] [.d (.cp false [Gp r])]),(3,.ptr 3 0),(8,Dk 8 1 33 Ol ((r.take i).map atE)),(12,iv r.length),(13,iv i)],[(3,[iv 17,bv true])],[(8,(((r.take i).map atE).length,1,33))]⟩) 0 ⟨by omega,rfl⟩ leQ ?_
 rintro i ⟨hi,ha⟩
 have hml:((r.take i).map atE).length≤100000:=by rw[List.length_map,List.length_take];omega
 by_cases hik:i<r.length
 ·have gi:decide ((i:Int)<r.length)=true:=decide_eq_true (by omega)
  obtain⟨x,hg⟩:∃p,r[i]?=some p:=⟨_,List.getElem?_eq_getElem hik⟩
  have hO:=cI r i hg (hs x (List.mem_of_getElem? hg))
  cases hv:atV x
  ·rw[hv,if_neg (by simp)] at hO
   rw[if_neg (by rintro⟨h,-⟩;rw[Vk hg hv] at h;cases h)]
   (repeat'((conv=>whnf);first|refine NBr.yes ?_|refine NBr.pos asP ?_|refine NCall.eq hO H7 ?_));(all_goals(conv=>whnf))
   all_goals exact NEnd.eq leQ
  ·rw[hv,if_pos rfl] at hO
   have hs':=Re atE hg
   (repeat'((conv=>whnf);first|refine NBr.no ?_|refine NBr.pos asP ?_|refine NCall.eq hO H7 ?_|refine NApp.one Ol (atE x) ?_|(with_reducible refine NInt.i64 ?_)));(all_goals(conv=>whnf))
   refine⟨i+1,⟨by omega,Nq atV hg hv ha⟩,by omega,?_⟩
   rw[hs']
   exact leQ
 ·have gi:decide ((i:Int)<r.length)=false:=decide_eq_false (by omega)
  obtain rfl:i=r.length:=by omega
  rw[List.take_length] at ha⊢
  cases ho:F1 (r.map atE)
  ·rw[ho] at hO2
   rw[if_neg (by rintro⟨-,h⟩;cases h)]
   (repeat'((conv=>whnf);first|refine NBr.yes ?_|refine NBr.neg asP ?_|refine NCall.eq hO2 H7 ?_));(all_goals(conv=>whnf))
   all_goals exact NEnd.eq leQ
  ·rw[ho] at hO2
   rw[if_pos ⟨ha,rfl⟩]
   (repeat'((conv=>whnf);first|refine NBr.yes ?_|refine NBr.no ?_|refine NBr.neg asP ?_|refine NCall.eq hO2 H7 ?_|refine NCall.eq hW H7 ?_));(all_goals(conv=>whnf))
   all_goals exact NEnd.eq leQ
structure Att.sm (a:Att):Prop where
 o:a.oid.length≤3000000
 v:a.val.length≤3000000
theorem uL {a:Att} (h:a.sm):(atE a).length≤a.oid.length*5+a.val.length+20:=by
 have h1:=H4 a.oid
 have:=h.o
 have:=h.v
 have h2:=Ao 0 6 false (Bj a.oid) (by omega)
 have h3:=Ao 0 16 true (Ae 0 6 false (Bj a.oid)++a.val) (by rw[List.length_append];omega)
 rw[List.length_append] at h3
 have e:(atE a).length=(Ae 0 16 true (Ae 0 6 false (Bj a.oid)++a.val)).length:=rfl
 omega
structure rdnZ (r:List Att):Prop where
 l:r.length≤100000
 a:∀a∈r,a.sm
 e:(r.map atE).flatten.length≤90000000
structure nmZ (n:List (List Att)):Prop where
 l:n.length≤100000
 r:∀r∈n,rdnZ r
 e:(n.map C6).flatten.length≤90000000
theorem Lg (r:List Att) (hz:rdnZ r):Ab Tryz.prog 47 [.d (Gp r)] (fun q=>q=if E4 r=true then .tup [B7 0 5 (C6 r),iv 0] else .tup [Ay,iv 8]):=by
 obtain⟨hl,hs,hq⟩:=hz
 have hS:=Vm r (by omega) (fun a ha=>by have:=(hs a ha).o;have:=(hs a ha).v;exact⟨by omega,by omega⟩) (by omega) (fun a ha=>by have:=uL (hs a ha);have:=(hs a ha).o;have:=(hs a ha).v;omega)
 cases r with
 |nil=>
  show Ab _ _ _ (fun q=>q= .tup [Ay,iv 8])
  refine acQ 17 Tryz.func47 rfl rfl fun _ _ _=> ?_
  (repeat'((conv=>whnf);refine NBr.yes ?_));(all_goals(conv=>whnf))
  all_goals exact NEnd.eq leQ
 |cons a q=>
  have gl:(((a::q).length:Int)==0)=false:=by rw[beq_eq_false_iff_ne,List.length_cons];omega
  by_cases h:E4 (a::q)=true
  ·rw[if_pos h]
   rw[if_pos (Pd h).2] at hS
   unfold C6
   generalize (a::q)=r at hS gl
   refine acQ 17 Tryz.func47 rfl rfl fun _ _ _=> ?_
   (repeat'((conv=>whnf);first|refine NBr.neg asP ?_|refine NCall.eq hS H7 ?_));(all_goals(conv=>whnf))
   all_goals exact NEnd.eq leQ
  ·rw[if_neg h]
   rw[if_neg (fun k=>h (by unfold E4;rw[k.1,k.2];rfl))] at hS
   generalize (a::q)=r at hS gl
   refine acQ 17 Tryz.func47 rfl rfl fun _ _ _=> ?_
   (repeat'((conv=>whnf);first|refine NBr.neg asP ?_|refine NCall.eq hS H7 ?_));(all_goals(conv=>whnf))
   all_goals exact NEnd.eq leQ
theorem kM (r:List (List Att)) (i:Nat) {x:List Att} (hg:r[i]?=some x) (hx:rdnZ x):Ab Tryz.prog 167 [iv i,.d (.cp false [E5 r])] (fun r=>r=if E4 x=true then .tup [B7 0 5 (C6 x),iv 0] else .tup [Ay,iv 8]):=by
 have hM:=Lg x hx
 by_cases h:E4 x=true
 all_goals
  first|rw[if_pos h] at hM⊢ |rw[if_neg h] at hM⊢
  refine acQ 12 Tryz.func167 rfl rfl fun _ _ _=> ?_
  (repeat'((conv=>whnf);first|refine NIdx.tab (fun _=>rfl) hg ?_|refine NCall.eq hM H7 ?_));(all_goals(conv=>whnf))
  all_goals exact NEnd.eq leQ
theorem Yp (r:List (List Att)) (hl:r.length≤100000) (hs:∀x∈r,rdnZ x) (hq:(r.map C6).flatten.length≤100000000) (_:∀x∈r,(C6 x).length≤100000000):Ab Tryz.prog 87 [.agg [iv 16,bv false],iv r.length,.cl 167 [] [.d (.cp false [E5 r])]] (fun q=>q=if r.all E4=true then .tup [B7 0 5 (Ae 0 16 true (r.map C6).flatten),iv 0] else .tup [Ay,iv 8]):=by
 have hW:=L3 0 16 true (r.map C6) (by omega) (by omega) (by omega) (by rw[List.length_map];omega)
 refine acQ 43 Tryz.func87 rfl rfl fun _ _ _=> ?_
 (all_goals(conv=>whnf))
 refine NLoop.goA [.s 8 1 33] (fun i:Nat=>i≤r.length∧(r.take i).all E4=true) (fun i=>r.length-i) (fun i=>⟨[(2,.cl 167 [] [.d (.cp false [E5 r])]),(3,.ptr 3 0),(8,Dk 8 1 33 Ol ((r.take i).map C6)),(12,iv r.length),(13,iv i)],[(3,[iv 16,bv false])],[(8,(((r.take i).map C6).length,1,33))]⟩) 0 ⟨by omega,rfl⟩ leQ ?_
 rintro i ⟨hi,ha⟩
 have hml:((r.take i).map C6).length≤100000:=by rw[List.length_map,List.length_take];omega
 by_cases hik:i<r.length
 ·have gi:decide ((i:Int)<r.length)=true:=decide_eq_true (by omega)
  obtain⟨x,hg⟩:∃p,r[i]?=some p:=⟨_,List.getElem?_eq_getElem hik⟩
  have hO:=kM r i hg (hs x (List.mem_of_getElem? hg))
  cases hv:E4 x
  ·rw[hv,if_neg (by simp)] at hO
   rw[if_neg (by rintro h;rw[Vk hg hv] at h;cases h)]
   (repeat'((conv=>whnf);first|refine NBr.yes ?_|refine NBr.pos asP ?_|refine NCall.eq hO H7 ?_));(all_goals(conv=>whnf))
   all_goals exact NEnd.eq leQ
  ·rw[hv,if_pos rfl] at hO
   have hs':=Re C6 hg
   (repeat'((conv=>whnf);first|refine NBr.no ?_|refine NBr.pos asP ?_|refine NCall.eq hO H7 ?_|refine NApp.one Ol (C6 x) ?_|(with_reducible refine NInt.i64 ?_)));(all_goals(conv=>whnf))
   refine⟨i+1,⟨by omega,Nq E4 hg hv ha⟩,by omega,?_⟩
   rw[hs']
   exact leQ
 ·have gi:decide ((i:Int)<r.length)=false:=decide_eq_false (by omega)
  obtain rfl:i=r.length:=by omega
  rw[List.take_length] at ha⊢
  rw[if_pos ha]
  (repeat'((conv=>whnf);first|refine NBr.no ?_|refine NBr.neg asP ?_|refine NCall.eq hW H7 ?_));(all_goals(conv=>whnf))
  all_goals exact NEnd.eq leQ
theorem kN (n:List (List Att)) (h:nmZ n):Ab Tryz.prog 128 [.d (E5 n)] (fun q=>q=if nmV n=true then .tup [B7 0 5 (nmE n),iv 0] else .tup [Ay,iv 8]):=by
 have hq:=h.e
 have hl:=h.l
 have hS:=Yp n (by omega) h.r (by omega) (fun r hr=>by
  have:=Fy (p:=C6 r) (l:=n.map C6) (List.mem_map_of_mem hr)
  omega)
 unfold nmV nmE
 by_cases hv:n.all E4=true
 all_goals
  first|rw[if_pos hv] at hS⊢ |rw[if_neg hv] at hS⊢
  refine acQ 14 Tryz.func128 rfl rfl fun _ _ _=> ?_
  (repeat'((conv=>whnf);refine NCall.eq hS H7 ?_));(all_goals(conv=>whnf))
  all_goals exact NEnd.eq leQ
theorem pU (l:List (List UInt8)):D.uns (l.flatMap G3)=l.flatMap G3:=by
 induction l with
 |nil=>rfl
 |cons p r ih=>
  show D.un (Ac false p)::D.uns (r.flatMap G3)=_
  rw[Ag,ih];rfl
def Rj (r:List Att):D:=Fe true 2 atU r
theorem uM (l:List Att):D.uns (l.flatMap atU)=l.flatMap atC:=by
 induction l with
 |nil=>rfl
 |cons m r ih=>
  show D.un (sD m.oid)::D.un (Ac true m.val)::D.uns (r.flatMap atU)=_
  rw[Ag,ih];rfl
theorem Ce (r:List Att):(Rj r).un=Gp r:=by
 show D.sl false r.length 2 (D.uns (r.flatMap atU))=_
 rw[uM];rfl
def Tp (r:List Att):List D:=[Rj r]
def Tq (n:List (List Att)):D:=Fe true 1 Tp n
theorem kO (n:List (List Att)):D.uns (n.flatMap Tp)=n.flatMap jK:=by
 induction n with
 |nil=>rfl
 |cons m r ih=>
  show D.un (Rj m)::D.uns (r.flatMap Tp)=_
  rw[Ce,ih];rfl
theorem Bg (n:List (List Att)):(Tq n).un=E5 n:=by
 show D.sl false n.length 1 (D.uns (n.flatMap Tp))=_
 rw[kO];rfl
def Yq (b:List UInt8):Nat×Nat:=Ri b (An b 0 16)
def Ow (b:List UInt8):List El→List (List UInt8)→List Att→Option (List Att)×Nat×Nat
 |[],_,out=>(some out,0,0)
 |x::r,ps,out=>match atO (elO b x) with
  |none=>(none,(Yq (elO b x)).1,x.at'+(Yq (elO b x)).2)
  |some a=>if F1 (ps++[elO b x])=true then Ow b r (ps++[elO b x]) (out++[a]) else(none,7,x.at')
def pW (b:List UInt8) (r:LR):Option (List Att)×Nat×Nat:=if r.code≠0 then(none,r.code,r.off) else if r.l=[] then(none,1,b.length) else Ow b r.l [] []
def Gt (b:List UInt8):Option (List Att)×Nat×Nat:=pW b (An b 0 17)
def BG:Option (List Att)×Nat×Nat→AV
 |(some r,_,_)=> .tup [.d (Rj r),erA 0 0]
 |(none,c,o)=> .tup [Ay,erA c o]
theorem Pe (b:List UInt8) (x:El):(elO b x).length≤b.length:=by unfold elO;rw[List.length_take,List.length_drop];omega
theorem Rk (b:List UInt8) (x:El):(elO b x).length≤x.stop-x.at':=by unfold elO;rw[List.length_take];omega
theorem F2 {p:Prop} (h:p:=by first|rfl|(simp only[AV.gives,AV.ren,AV.give,D.un,D.uns,Ag,Ai,List.nil_append,List.append_nil,List.cons_append,Al,A3,Dq,Ds,Bd,Aw,Cd,Dk,Bk,pU];first|done|rfl)):p:=h
theorem Rl (b:List UInt8) (hb:b.length≤800000):Ab Tryz.prog 151 [.d (Ac false b)] (fun r=>r=BG (Gt b)):=by
 have hP:=Hy b 0 17 (by omega)
 have hin:=fun x=>C5 (b:=b) (c:=0) (n:=17) (x:=x)
 have hcn:=Is b 0 17
 unfold Gt
 generalize An b 0 17=R at hP hin hcn⊢
 unfold pW
 by_cases h1:R.code≠0
 ·rw[if_pos h1]
  rw[lrA,if_pos h1] at hP
  have gc:((R.code:Int) !=0)=true:=by rw[bne_iff_ne];omega
  generalize R.code=c at hP gc
  generalize R.off=o at hP
  show Ab _ _ _ (fun r=>r= .tup [Ay,erA c o])
  refine acQ 76 Tryz.func151 rfl rfl fun _ _ _=> ?_
  (repeat'((conv=>whnf);first|refine NBr.pos asP ?_|refine NCall.eq hP F2 ?_|refine NFact.go ⟨by decide+kernel,by kernel_rfl⟩ ?_));(all_goals(conv=>whnf))
  all_goals exact NEnd.eq leQ
 rw[if_neg h1]
 rw[lrA,if_neg h1] at hP
 generalize R.l=l at hP hin hcn⊢
 by_cases hl:l=[]
 ·subst hl
  show Ab _ _ _ (fun r=>r= .tup [Ay,erA 1 b.length])
  refine acQ 76 Tryz.func151 rfl rfl fun _ _ _=> ?_
  (repeat'((conv=>whnf);first|refine NBr.yes ?_|refine NBr.no ?_|refine NCall.eq hP F2 ?_));(all_goals(conv=>whnf))
  all_goals exact NEnd.eq leQ
 rw[if_neg hl]
 have gl:((l.length:Int)==0)=false:=by rw[beq_eq_false_iff_ne];intro h;exact hl (List.eq_nil_of_length_eq_zero (by omega))
 generalize hQ:Ow b l [] []=q
 refine acQ 76 Tryz.func151 rfl rfl fun _ _ _=> ?_
 (repeat'((conv=>whnf);first|refine NBr.no ?_|refine NBr.neg asP ?_|refine NCall.eq hP F2 ?_));(all_goals(conv=>whnf))
 refine NLoop.goA [.s 6 2 126,.s 7 1 33] (fun z:Nat×List (List UInt8)×List Att=>z.1≤l.length∧z.2.1.length≤z.1∧z.2.2.length≤z.1∧(∀p∈z.2.1,p.length≤b.length)∧q=Ow b (l.drop z.1) z.2.1 z.2.2) (fun z=>l.length-z.1) (fun z=>⟨[(0,.d (Ac false b)),(3,.ptr 3 0),(6,Dk 6 2 126 atU z.2.2),(7,Dk 7 1 33 G3 z.2.1),(27,.d (bE l)),(28,iv l.length),(29,iv z.1)],[(3,[iv 0,iv 0])],[(6,(z.2.2.length,2,126)),(7,(z.2.1.length,1,33))]⟩) (0,[],[]) ⟨by simp,by simp,by simp,by simp,by rw[List.drop_zero];exact hQ.symm⟩ leQ ?_
 rintro⟨i,ps,out⟩ ⟨hi,hps,hou,hpl,he⟩
 simp only at hi hps hou hpl he
 by_cases hik:i<l.length
 ·have gi:decide ((i:Int)<l.length)=true:=decide_eq_true (by omega)
  obtain⟨x,hg⟩:∃p,l[i]?=some p:=⟨_,List.getElem?_eq_getElem hik⟩
  obtain⟨x1,x2,x3⟩:=hin x (List.mem_of_getElem? hg)
  have hel:=Pe b x
  have hle:=Rk b x
  have hA:=Yn (elO b x) (by omega)
  have hAe:=Yo (elO b x)
  rw[Nr hg,Ow] at he
  have hA:Ab Tryz.prog 187 [.d (Ac false (elO b x))] (fun r=>r=atR (atO (elO b x)) (Yq (elO b x))):=hA
  have hAe:atO (elO b x)=none→(Yq (elO b x)).1≠0∧(Yq (elO b x)).2≤(elO b x).length:=hAe
  generalize Yq (elO b x)=er at hA hAe he
  cases ho:atO (elO b x) with
  |none=>
   rw[ho] at hA he
   obtain⟨e1,e2⟩:=hAe ho
   obtain⟨ec,eo⟩:=er
   simp only at e1 e2 he
   subst he
   have gc:((ec:Int) !=0)=true:=by rw[bne_iff_ne];omega
   have hA:Ab Tryz.prog 187 [.d (Ac false (elO b x))] (fun r=>r= .tup [.agg [sx [],Ay],erA ec eo]):=hA
   unfold elO at hA e2
   (repeat'((conv=>whnf);first|refine NBr.pos asP ?_|refine NIdx.tab (fun _=>rfl) hg ?_|refine NSl.slice (x.at') (x.stop) ?_|refine NApp.one G3 ((b.drop x.at').take (x.stop-x.at')) ?_|refine NCall.eq hA F2 ?_|(with_reducible refine NInt.i64 ?_)|refine NFact.go ⟨by decide+kernel,by kernel_rfl⟩ ?_));(all_goals(conv=>whnf))
   all_goals exact NEnd.eq leQ
  |some a=>
   rw[ho] at hA he
   have hA:Ab Tryz.prog 187 [.d (Ac false (elO b x))] (fun r=>r= .tup [.agg [sx a.oid,.d (Ac true a.val)],erA 0 0]):=hA
   simp only at he
   have hOr:=Of (ps++[elO b x]) (by rw[List.length_append,List.length_singleton];omega) (fun p hp=>by
    rcases List.mem_append.1 hp with h|h
    ·have:=hpl p h;omega
    ·rw[List.mem_singleton.1 h];omega)
   unfold elO at hA hOr he
   cases hor:F1 (ps++[(b.drop x.at').take (x.stop-x.at')])
   ·rw[hor] at hOr he
    rw[if_neg (by simp)] at he
    subst he
    (repeat'((conv=>whnf);first|refine NBr.yes ?_|refine NBr.no ?_|refine NBr.pos asP ?_|refine NIdx.tab (fun _=>rfl) hg ?_|refine NSl.slice (x.at') (x.stop) ?_|refine NApp.one G3 ((b.drop x.at').take (x.stop-x.at')) ?_|refine NCall.eq hA F2 ?_|refine NCall.eq hOr F2 ?_|refine NFact.go ⟨by decide+kernel,by kernel_rfl⟩ ?_));(all_goals(conv=>whnf))
    all_goals exact NEnd.eq leQ
   ·rw[hor] at hOr he
    rw[if_pos rfl] at he
    (repeat'((conv=>whnf);first|refine NBr.no ?_|refine NBr.pos asP ?_|refine NIdx.tab (fun _=>rfl) hg ?_|refine NSl.slice (x.at') (x.stop) ?_|refine NApp.one G3 ((b.drop x.at').take (x.stop-x.at')) ?_|refine NCall.eq hA F2 ?_|refine NCall.eq hOr F2 ?_|refine NApp.one atU a ?_|(with_reducible refine NInt.i64 ?_)));(all_goals(conv=>whnf))
    refine⟨(i+1,ps++[(b.drop x.at').take (x.stop-x.at')],out++[a]),⟨by show i+1≤_;omega,by simp;omega,by simp;omega,fun p hp=> ?_,he⟩,by show l.length-(i+1)<l.length-i;omega,?_⟩
    ·rcases List.mem_append.1 hp with h|h
     ·exact hpl p h
     ·rw[List.mem_singleton.1 h];exact hel
    ·exact leQ
 ·have gi:decide ((i:Int)<l.length)=false:=decide_eq_false (by omega)
  obtain rfl:i=l.length:=by omega
  rw[List.drop_length,Ow] at he
  subst he
  (repeat'((conv=>whnf);refine NBr.neg asP ?_));(all_goals(conv=>whnf))
  all_goals exact NEnd.eq leQ
def nmL (b:List UInt8):List El→List (List Att)→Option (List (List Att))×Nat×Nat
 |[],out=>(some out,0,0)
 |x::r,out=>match Gt (elO b x) with
  |(none,c,o)=>(none,c,x.at'+o)
  |(some a,_,_)=>nmL b r (out++[a])
def nmQ (b:List UInt8) (r:LR):Option (List (List Att))×Nat×Nat:=if r.code≠0 then(none,r.code,r.off) else nmL b r.l []
def nmR (b:List UInt8):Option (List (List Att))×Nat×Nat:=nmQ b (An b 0 16)
def nmA:Option (List (List Att))×Nat×Nat→AV
 |(some r,_,_)=> .tup [.d (Tq r),erA 0 0]
 |(none,c,o)=> .tup [Ay,erA c o]
theorem fC (b:List UInt8):∀(l:List El) (ps:List (List UInt8)) (out:List Att),(∀x∈l,x.at'≤x.stop∧x.stop≤b.length)→(Ow b l ps out).1=none→(Ow b l ps out).2.1≠0∧(Ow b l ps out).2.2≤b.length
 |[],_,_,_,h=>by cases h
 |x::r,ps,out,hx,h=>by
  have hle:=Rk b x
  have hAe:atO (elO b x)=none→(Yq (elO b x)).1≠0∧(Yq (elO b x)).2≤(elO b x).length:=Yo (elO b x)
  have:=hx x (by simp)
  rw[Ow] at h⊢
  cases ho:atO (elO b x) with
  |none=>obtain⟨e1,e2⟩:=hAe ho;exact⟨e1,by show x.at'+_≤_;omega⟩
  |some a=>
   rw[ho] at h
   simp only at h⊢
   by_cases hor:F1 (ps++[elO b x])=true
   ·rw[if_pos hor] at h⊢
    exact fC b r _ _ (fun y hy=>hx y (by simp[hy])) h
   ·rw[if_neg hor];exact⟨by simp,by show x.at'≤_;omega⟩
theorem Vn (b:List UInt8) (h:(Gt b).1=none):(Gt b).2.1≠0∧(Gt b).2.2≤b.length:=by
 have hin:=fun x=>C5 (b:=b) (c:=0) (n:=17) (x:=x)
 have hoff:=Gs b 0 17
 unfold Gt at h⊢
 generalize An b 0 17=R at hin hoff h⊢
 unfold pW at h⊢
 by_cases h1:R.code≠0
 ·rw[if_pos h1];exact⟨h1,hoff⟩
 rw[if_neg h1] at h⊢
 by_cases hl:R.l=[]
 ·rw[if_pos hl];exact⟨by simp,Nat.le_refl _⟩
 ·rw[if_neg hl] at h⊢
  exact fC b R.l [] [] (fun y hy=>by have:=hin y hy;omega) h
theorem kP (b:List UInt8) (hb:b.length≤800000):Ab Tryz.prog 222 [.d (Ac false b)] (fun r=>r=nmA (nmR b)):=by
 have hP:=Hy b 0 16 (by omega)
 have hin:=fun x=>C5 (b:=b) (c:=0) (n:=16) (x:=x)
 have hcn:=Is b 0 16
 unfold nmR
 generalize An b 0 16=R at hP hin hcn⊢
 unfold nmQ
 by_cases h1:R.code≠0
 ·rw[if_pos h1]
  rw[lrA,if_pos h1] at hP
  have gc:((R.code:Int) !=0)=true:=by rw[bne_iff_ne];omega
  generalize R.code=c at hP gc
  generalize R.off=o at hP
  show Ab _ _ _ (fun r=>r= .tup [Ay,erA c o])
  refine acQ 54 Tryz.func222 rfl rfl fun _ _ _=> ?_
  (repeat'((conv=>whnf);first|refine NBr.pos asP ?_|refine NCall.eq hP F2 ?_|refine NFact.go ⟨by decide+kernel,by kernel_rfl⟩ ?_));(all_goals(conv=>whnf))
  all_goals exact NEnd.eq leQ
 rw[if_neg h1]
 rw[lrA,if_neg h1] at hP
 generalize R.l=l at hP hin hcn⊢
 generalize hQ:nmL b l []=q
 refine acQ 54 Tryz.func222 rfl rfl fun _ _ _=> ?_
 (repeat'((conv=>whnf);first|refine NBr.no ?_|refine NCall.eq hP F2 ?_));(all_goals(conv=>whnf))
 refine NLoop.goA [.s 6 1 24] (fun z:Nat×List (List Att)=>z.1≤l.length∧z.2.length≤z.1∧q=nmL b (l.drop z.1) z.2) (fun z=>l.length-z.1) (fun z=>⟨[(0,.d (Ac false b)),(3,.ptr 3 0),(6,Dk 6 1 24 Tp z.2),(20,.d (bE l)),(21,iv l.length),(22,iv z.1)],[(3,[iv 0,iv 0])],[(6,(z.2.length,1,24))]⟩) (0,[]) ⟨by simp,by simp,by rw[List.drop_zero];exact hQ.symm⟩ leQ ?_
 rintro⟨i,out⟩ ⟨hi,hou,he⟩
 simp only at hi hou he
 by_cases hik:i<l.length
 ·have gi:decide ((i:Int)<l.length)=true:=decide_eq_true (by omega)
  obtain⟨x,hg⟩:∃p,l[i]?=some p:=⟨_,List.getElem?_eq_getElem hik⟩
  obtain⟨x1,x2,x3⟩:=hin x (List.mem_of_getElem? hg)
  have hel:=Pe b x
  have hle:=Rk b x
  have hA:=Rl (elO b x) (by omega)
  have hAe:=Vn (elO b x)
  rw[Nr hg,nmL] at he
  generalize Gt (elO b x)=er at hA hAe he
  obtain⟨eo,ec,ep⟩:=er
  cases eo with
  |none=>
   obtain⟨e1,e2⟩:=hAe rfl
   simp only at e1 e2 he
   subst he
   have gc:((ec:Int) !=0)=true:=by rw[bne_iff_ne];omega
   have hA:Ab Tryz.prog 151 [.d (Ac false (elO b x))] (fun r=>r= .tup [Ay,erA ec ep]):=hA
   unfold elO at hA e2
   (repeat'((conv=>whnf);first|refine NBr.pos asP ?_|refine NIdx.tab (fun _=>rfl) hg ?_|refine NSl.slice (x.at') (x.stop) ?_|refine NCall.eq hA F2 ?_|(with_reducible refine NInt.i64 ?_)|refine NFact.go ⟨by decide+kernel,by kernel_rfl⟩ ?_));(all_goals(conv=>whnf))
   all_goals exact NEnd.eq leQ
  |some a=>
   simp only at he
   have hA:Ab Tryz.prog 151 [.d (Ac false (elO b x))] (fun r=>r= .tup [.d (Rj a),erA 0 0]):=hA
   unfold elO at hA
   (repeat'((conv=>whnf);first|refine NBr.no ?_|refine NBr.pos asP ?_|refine NIdx.tab (fun _=>rfl) hg ?_|refine NSl.slice (x.at') (x.stop) ?_|refine NCall.eq hA F2 ?_|refine NApp.one Tp a ?_|(with_reducible refine NInt.i64 ?_)));(all_goals(conv=>whnf))
   refine⟨(i+1,out++[a]),⟨by show i+1≤_;omega,by simp;omega,he⟩,by show l.length-(i+1)<l.length-i;omega,?_⟩
   exact leQ
 ·have gi:decide ((i:Int)<l.length)=false:=decide_eq_false (by omega)
  obtain rfl:i=l.length:=by omega
  rw[List.drop_length,nmL] at he
  subst he
  (repeat'((conv=>whnf);refine NBr.neg asP ?_));(all_goals(conv=>whnf))
  all_goals exact NEnd.eq leQ
theorem pX (b:List UInt8):∀(l:List El) (out:List (List Att)),(∀x∈l,x.at'≤x.stop∧x.stop≤b.length)→(nmL b l out).1=none→(nmL b l out).2.1≠0∧(nmL b l out).2.2≤b.length
 |[],_,_,h=>by cases h
 |x::r,out,hx,h=>by
  have hle:=Rk b x
  have hAe:=Vn (elO b x)
  have:=hx x (by simp)
  rw[nmL] at h⊢
  generalize Gt (elO b x)=er at hAe h⊢
  obtain⟨eo,ec,ep⟩:=er
  cases eo with
  |none=>obtain⟨e1,e2⟩:=hAe rfl;exact⟨e1,by show x.at'+ep≤_;simp only at e2;omega⟩
  |some a=>exact pX b r _ (fun y hy=>hx y (by simp[hy])) h
theorem yS (b:List UInt8) (h:(nmR b).1=none):(nmR b).2.1≠0∧(nmR b).2.2≤b.length:=by
 have hin:=fun x=>C5 (b:=b) (c:=0) (n:=16) (x:=x)
 have hoff:=Gs b 0 16
 unfold nmR at h⊢
 generalize An b 0 16=R at hin hoff h⊢
 unfold nmQ at h⊢
 by_cases h1:R.code≠0
 ·rw[if_pos h1];exact⟨h1,hoff⟩
 rw[if_neg h1] at h⊢
 exact pX b R.l [] (fun y hy=>by have:=hin y hy;omega) h
abbrev gnQ (g:Gn):AV:= .agg [iv g.k,.d (sD g.oid),.d (sD g.tx),.d (Ac true g.by'),.d (Tq g.nm),iv g.ak,.d (sD g.av),iv g.pk,.d (sD g.pv)]
def gz:Gn:=⟨0,[],[],[],[],0,[],0,[]⟩
abbrev ptA (k:Int) (c:List UInt8):AV:= .agg [iv k,.d (Ac false c)]
abbrev gbA (p:Gn×Bool):AV:= .tup [gnQ p.1,bv p.2]
theorem Bw {p:Prop} (h:p:=by first|rfl|(simp only[AV.gives,AV.ren,AV.give,D.un,D.uns,Ag,Ai,List.nil_append,List.append_nil,List.cons_append,Al,A3,Bz,Bd,Aw,Bt,Cd,Ce,Bg];first|done|rfl)):p:=h
theorem Nt (k:Int) (c:List UInt8) (hl:c.length≤1000000):Ab Tryz.prog 169 [ptA k c] (fun r=>r=gbA (⟨k,[],C9 22 c,[],[],0,[],0,[]⟩,Dw 22 c==0)):=by
 have hE:=L6 22 c hl
 refine acQ 19 Tryz.func169 rfl rfl fun _ _ _=> ?_
 (repeat'((conv=>whnf);refine NCall.eq hE Bw ?_));(all_goals(conv=>whnf))
 all_goals exact NEnd.eq leQ
theorem Rm (k:Int) (c:List UInt8) (hl:c.length≤1000000):Ab Tryz.prog 170 [ptA k c] (fun r=>r=gbA (⟨k,[],[],c,[],0,[],0,[]⟩,true)):=by
 have hE:=Hx c (by omega)
 refine acQ 10 Tryz.func170 rfl rfl fun _ _ _=> ?_
 (repeat'((conv=>whnf);first|refine NCall.eq hE Bw ?_|refine NFact.go ⟨by decide+kernel,by kernel_rfl⟩ ?_));(all_goals(conv=>whnf))
 all_goals exact NEnd.eq leQ
theorem Yr (k:Int) (c:List UInt8) (hl:c.length≤800000):Ab Tryz.prog 173 [ptA k c] (fun r=>r=gbA (⟨k,odT c,[],[],[],0,[],0,[]⟩,(odC c:Int)==0)):=by
 have hE:=Le c (by omega)
 rw[U8] at hE
 refine acQ 18 Tryz.func173 rfl rfl fun _ _ _=> ?_
 (repeat'((conv=>whnf);refine NCall.eq hE Bw ?_));(all_goals(conv=>whnf))
 all_goals exact NEnd.eq leQ
def Mn (k:Int) (c:List UInt8):Gn×Bool:=match nmR c with
 |(some n,_,_)=>(⟨k,[],[],[],n,0,[],0,[]⟩,true)
 |(none,_,_)=>(⟨k,[],[],[],[],0,[],0,[]⟩,false)
theorem pY (k:Int) (c:List UInt8) (hl:c.length≤800000):Ab Tryz.prog 171 [ptA k c] (fun r=>r=gbA (Mn k c)):=by
 have hE:=kP c hl
 have ho:=yS c
 unfold Mn
 generalize nmR c=q at hE ho⊢
 obtain⟨n,cd,of⟩:=q
 cases n with
 |none=>
  have h0:=(ho rfl).1
  simp only at h0
  have g0:((cd:Int)==0)=false:=by rw[beq_eq_false_iff_ne];omega
  have hE:Ab Tryz.prog 222 [.d (Ac false c)] (fun r=>r= .tup [Ay,erA cd of]):=hE
  refine acQ 19 Tryz.func171 rfl rfl fun _ _ _=> ?_
  (repeat'((conv=>whnf);first|refine NCall.eq hE Bw ?_|refine NFact.go ⟨by decide+kernel,by kernel_rfl⟩ ?_));(all_goals(conv=>whnf))
  all_goals(refine NEnd.eq ?_;(repeat'(first|exact trivial|exact B8 _|refine And.intro ?_ ?_|exact rfl));(all_goals(conv=>whnf)))
  all_goals exact g0
 |some n=>
  have hE:Ab Tryz.prog 222 [.d (Ac false c)] (fun r=>r= .tup [.d (Tq n),erA 0 0]):=hE
  refine acQ 19 Tryz.func171 rfl rfl fun _ _ _=> ?_
  (repeat'((conv=>whnf);first|refine NCall.eq hE Bw ?_|refine NFact.go ⟨by decide+kernel,by kernel_rfl⟩ ?_));(all_goals(conv=>whnf))
  all_goals exact NEnd.eq leQ
theorem Lh {c p:List UInt8} (h:p∈Cc c):p.length≤c.length:=by
 unfold Cc at h
 split at h
 ·cases h
 ·obtain⟨x,-,rfl⟩:=List.mem_map.1 h
  exact Pe c x
def inn (b:List UInt8) (n:Nat):List UInt8:=(Av b n).getD []
theorem uN (b:List UInt8) (n:Nat) (hb:b.length≤1000000000):Ab Tryz.prog 219 [.d (Ac false b),iv n] (fun r=>r=oM (Av b n)):=jJ b n hb
theorem Mo (b:List UInt8) (n:Nat):(inn b n).length≤b.length:=by
 unfold inn Av
 split
 ·exact Nat.zero_le _
 ·show((b.drop _).take _).length≤_;rw[List.length_take,List.length_drop];omega
def So (k:Int) (p q:List UInt8):Gn×Bool:=if(Ap p).code≠0∨(Ap p).x.isB 0 6 false=false then(gz,false) else
 (⟨k,odT (p.drop (Ap p).x.body),[],inn q 0,[],0,[],0,[]⟩,(Av q 0).isSome&&((odC (p.drop (Ap p).x.body):Int)==0))
def Kl (k:Int) (c:List UInt8):Gn×Bool:=match Cc c with
 |[p,q]=>So k p q
 |_=>(gz,false)
theorem pZ (k:Int) (c:List UInt8) (hl:c.length≤800000):Ab Tryz.prog 168 [ptA k c] (fun r=>r=gbA (Kl k c)):=by
 have hS:=Tc c (by omega)
 have hm:=fun p=>Lh (c:=c) (p:=p)
 unfold Kl
 generalize Cc c=l at hS hm⊢
 match l with
 |[]=>
  refine acQ 62 Tryz.func168 rfl rfl fun _ _ _=> ?_
  (repeat'((conv=>whnf);first|refine NBr.yes ?_|refine NCall.eq hS Bw ?_));(all_goals(conv=>whnf))
  all_goals exact NEnd.eq leQ
 |[x]=>
  refine acQ 62 Tryz.func168 rfl rfl fun _ _ _=> ?_
  (repeat'((conv=>whnf);first|refine NBr.yes ?_|refine NCall.eq hS Bw ?_));(all_goals(conv=>whnf))
  all_goals exact NEnd.eq leQ
 |x::y::z::r=>
  refine acQ 62 Tryz.func168 rfl rfl fun _ _ _=> ?_
  (repeat'((conv=>whnf);first|refine NBr.yes ?_|refine NCall.eq hS Bw ?_));(all_goals(conv=>whnf))
  all_goals exact NEnd.eq leQ
 |[p,q]=>
  have hp:=hm p (by simp)
  have hq:=hm q (by simp)
  have g0:([p,q]:List (List UInt8))[0]?=some p:=rfl
  have g1:([p,q]:List (List UInt8))[1]?=some q:=rfl
  have hO:=Im p (by omega)
  have hF:=Cm p
  have hI:=Ni (Ap p).x 0 6 false
  show Ab _ _ _ (fun r=>r=gbA (So k p q))
  unfold So
  by_cases h1:(Ap p).code≠0
  ·rw[if_pos (.inl h1)]
   generalize Ap p=r1 at hO h1
   have gc:((r1.code:Int) !=0)=true:=by rw[bne_iff_ne];omega
   refine acQ 62 Tryz.func168 rfl rfl fun _ _ _=> ?_
   (repeat'((conv=>whnf);first|refine NBr.yes ?_|refine NBr.no ?_|refine NBr.pos asP ?_|refine NCall.eq hS Bw ?_|refine NIdx.tab (fun _=>rfl) g0 ?_|refine NCall.eq hO Bw ?_));(all_goals(conv=>whnf))
   all_goals exact NEnd.eq leQ
  have h1':=Decidable.not_not.1 h1
  cases h2:(Ap p).x.isB 0 6 false
  ·rw[if_pos (.inr rfl)]
   rw[h2] at hI
   generalize Ap p=r1 at hO h1' hI
   obtain⟨x1,c1,o1⟩:=r1
   simp only at h1'
   subst h1'
   refine acQ 62 Tryz.func168 rfl rfl fun _ _ _=> ?_
   (repeat'((conv=>whnf);first|refine NBr.yes ?_|refine NBr.no ?_|refine NCall.eq hS Bw ?_|refine NIdx.tab (fun _=>rfl) g0 ?_|refine NCall.eq hO Bw ?_|refine NCall.eq hI rfl ?_));(all_goals(conv=>whnf))
   all_goals exact NEnd.eq leQ
  ·rw[if_neg (by rintro(h|h);exact h1 h;cases h)]
   rw[h2] at hI
   have hb:=hF.1 h1'
   have hD:=Le (p.drop (Ap p).x.body) (by rw[List.length_drop];omega)
   have hN:=uN q 0 (by omega)
   have hil:=Mo q 0
   have hC:=Hx (inn q 0) (by omega)
   rw[U8] at hD
   unfold inn at hC⊢
   generalize Ap p=r1 at hO h1' hI hb hD⊢
   obtain⟨x1,c1,o1⟩:=r1
   simp only at h1' hb hI hD⊢
   subst h1'
   generalize odT (p.drop x1.body)=ot at hD⊢
   generalize odC (p.drop x1.body)=oc at hD⊢
   cases hin:Av q 0 with
   |none=>
    rw[hin] at hN hC
    have hC:Ab Tryz.prog 220 [.d (Ac false [])] (fun r=>r= .d (Ac true [])):=hC
    have hN:Ab Tryz.prog 219 [.d (Ac false q),iv 0] (fun r=>r= .tup [Ay,bv false]):=hN
    refine acQ 62 Tryz.func168 rfl rfl fun _ _ _=> ?_
    (repeat'((conv=>whnf);first|refine NBr.no ?_|refine NCall.eq hS Bw ?_|refine NIdx.tab (fun _=>rfl) g0 ?_|refine NIdx.tab (fun _=>rfl) g1 ?_|refine NCall.eq hO Bw ?_|refine NCall.eq hI rfl ?_|refine NSl.from (x1.body) ?_|refine NCall.eq hD Bw ?_|refine NCall.eq hN Bw ?_|refine NCall.le hC K5 ?_|refine NFact.go ⟨by decide+kernel,by kernel_rfl⟩ ?_));(all_goals(conv=>whnf))
    all_goals exact NEnd.eq leQ
   |some v=>
    rw[hin] at hN hC
    have hC:Ab Tryz.prog 220 [.d (Ac false v)] (fun r=>r= .d (Ac true v)):=hC
    have hN:Ab Tryz.prog 219 [.d (Ac false q),iv 0] (fun r=>r= .tup [.d (Ac false v),bv true]):=hN
    refine acQ 62 Tryz.func168 rfl rfl fun _ _ _=> ?_
    (repeat'((conv=>whnf);first|refine NBr.yes ?_|refine NBr.no ?_|refine NCall.eq hS Bw ?_|refine NIdx.tab (fun _=>rfl) g0 ?_|refine NIdx.tab (fun _=>rfl) g1 ?_|refine NCall.eq hO Bw ?_|refine NCall.eq hI rfl ?_|refine NSl.from (x1.body) ?_|refine NCall.eq hD Bw ?_|refine NCall.eq hN Bw ?_|refine NCall.eq hC Bw ?_|refine NFact.go ⟨by decide+kernel,by kernel_rfl⟩ ?_));(all_goals(conv=>whnf))
    all_goals exact NEnd.eq leQ
def pK (b:List UInt8):Int:=if D9 b=true then Kk b else 0
def pV (b:List UInt8):List UInt8:=if D9 b=true then Ns b else []
theorem Vo (b:List UInt8) (hb:b.length≤1000000):Ab Tryz.prog 223 [.d (Ac false b)] (fun r=>r= .tup [txA (pK b) (pV b),bv (D9 b)]):=by
 have h:=Sm b hb
 unfold yR at h
 unfold pK pV
 cases hd:D9 b
 all_goals
  rw[hd] at h
  exact h
def Iv (k:Int) (q:List UInt8) (ak:Int) (av:List UInt8):Gn×Bool:=(⟨k,[],[],[],[],ak,av,pK (inn q 1),pV (inn q 1)⟩,(Av q 1).isSome&&D9 (inn q 1))
def H8 (k:Int) (c:List UInt8):Gn×Bool:=match Cc c with
 |[p,q]=>if(Av p 0).isSome&&D9 (inn p 0) then Iv k q (pK (inn p 0)) (pV (inn p 0)) else(gz,false)
 |[q]=>Iv k q 0 []
 |_=>(gz,false)
theorem D2 {b v:List UInt8} {n:Nat} (h:Av b n=some v):inn b n=v:=by unfold inn;rw[h];rfl
theorem Rn {b:List UInt8} {n:Nat} (h:Av b n=none):inn b n=[]:=by unfold inn;rw[h];rfl
theorem A6 {p:Prop} (h:p:=by first|rfl|(simp only[AV.gives,AV.ren,AV.give,D.un,D.uns,Ag,Ai,List.nil_append,List.append_nil,List.cons_append,Al,A3,Bz,Bd,Aw,Bt,Cd,Ce,Bg];first|done|rfl)):p:=h
theorem qA (k:Int) (c:List UInt8) (hl:c.length≤800000):Ab Tryz.prog 172 [ptA k c] (fun r=>r=gbA (H8 k c)):=by
 have hS:=Tc c (by omega)
 have hm:=fun p=>Lh (c:=c) (p:=p)
 unfold H8
 generalize Cc c=l at hS hm⊢
 match l with
 |[]=>
  refine acQ 69 Tryz.func172 rfl rfl fun _ _ _=> ?_
  (repeat'((conv=>whnf);first|refine NBr.yes ?_|refine NBr.no ?_|refine NCall.eq hS A6 ?_));(all_goals(conv=>whnf))
  all_goals exact NEnd.eq leQ
 |x::y::z::r=>
  refine acQ 69 Tryz.func172 rfl rfl fun _ _ _=> ?_
  (repeat'((conv=>whnf);first|refine NBr.yes ?_|refine NBr.no ?_|refine NCall.eq hS A6 ?_));(all_goals(conv=>whnf))
  all_goals exact NEnd.eq leQ
 |[q]=>
  have hq:=hm q (by simp)
  have g0:([q]:List (List UInt8))[0]?=some q:=rfl
  have hN:=uN q 1 (by omega)
  have hil:=Mo q 1
  have hD:=Vo (inn q 1) (by omega)
  show Ab _ _ _ (fun r=>r=gbA (Iv k q 0 []))
  unfold Iv
  cases hin:Av q 1 with
  |none=>
   rw[hin] at hN
   rw[Rn hin] at hD⊢
   have hN:Ab Tryz.prog 219 [.d (Ac false q),iv 1] (fun r=>r= .tup [Ay,bv false]):=hN
   generalize pK []=K at hD⊢
   generalize pV []=V at hD⊢
   generalize D9 []=O at hD⊢
   refine acQ 69 Tryz.func172 rfl rfl fun _ _ _=> ?_
   (repeat'((conv=>whnf);first|refine NBr.no ?_|refine NCall.eq hS A6 ?_|refine NIdx.tab (fun _=>rfl) g0 ?_|refine NCall.eq hN A6 ?_|refine NCall.le hD K5 ?_));(all_goals(conv=>whnf))
   all_goals exact NEnd.eq leQ
  |some v=>
   rw[hin] at hN
   rw[D2 hin] at hD⊢
   have hN:Ab Tryz.prog 219 [.d (Ac false q),iv 1] (fun r=>r= .tup [.d (Ac false v),bv true]):=hN
   generalize pK v=K at hD⊢
   generalize pV v=V at hD⊢
   generalize D9 v=O at hD⊢
   refine acQ 69 Tryz.func172 rfl rfl fun _ _ _=> ?_
   (repeat'((conv=>whnf);first|refine NBr.yes ?_|refine NBr.no ?_|refine NCall.eq hS A6 ?_|refine NIdx.tab (fun _=>rfl) g0 ?_|refine NCall.eq hN A6 ?_|refine NCall.eq hD A6 ?_));(all_goals(conv=>whnf))
   all_goals exact NEnd.eq leQ
 |[p,q]=>
  have hp:=hm p (by simp)
  have hq:=hm q (by simp)
  have g0:([p,q]:List (List UInt8))[0]?=some p:=rfl
  have g1:([q]:List (List UInt8))[0]?=some q:=rfl
  have hN0:=uN p 0 (by omega)
  have hil0:=Mo p 0
  have hD0:=Vo (inn p 0) (by omega)
  have hN:=uN q 1 (by omega)
  have hil:=Mo q 1
  have hD:=Vo (inn q 1) (by omega)
  show Ab _ _ _ (fun r=>r=gbA (if(Av p 0).isSome&&D9 (inn p 0) then Iv k q (pK (inn p 0)) (pV (inn p 0)) else(gz,false)))
  cases hin0:Av p 0 with
  |none=>
   rw[hin0] at hN0
   rw[Rn hin0] at hD0
   have hN0:Ab Tryz.prog 219 [.d (Ac false p),iv 0] (fun r=>r= .tup [Ay,bv false]):=hN0
   rw[if_neg (by simp)]
   generalize pK []=K at hD0
   generalize pV []=V at hD0
   generalize D9 []=O at hD0
   refine acQ 69 Tryz.func172 rfl rfl fun _ _ _=> ?_
   (repeat'((conv=>whnf);first|refine NBr.yes ?_|refine NCall.eq hS A6 ?_|refine NIdx.tab (fun _=>rfl) g0 ?_|refine NCall.eq hN0 A6 ?_|refine NCall.le hD0 K5 ?_));(all_goals(conv=>whnf))
   all_goals exact NEnd.eq leQ
  |some v=>
   rw[hin0] at hN0
   rw[D2 hin0] at hD0⊢
   have hN0:Ab Tryz.prog 219 [.d (Ac false p),iv 0] (fun r=>r= .tup [.d (Ac false v),bv true]):=hN0
   cases hd0:D9 v
   ·rw[hd0] at hD0
    rw[if_neg (by simp)]
    refine acQ 69 Tryz.func172 rfl rfl fun _ _ _=> ?_
    (repeat'((conv=>whnf);first|refine NBr.yes ?_|refine NBr.no ?_|refine NCall.eq hS A6 ?_|refine NIdx.tab (fun _=>rfl) g0 ?_|refine NCall.eq hN0 A6 ?_|refine NCall.eq hD0 A6 ?_));(all_goals(conv=>whnf))
    all_goals exact NEnd.eq leQ
   rw[hd0] at hD0
   rw[if_pos (by rfl)]
   generalize pK v=K0 at hD0⊢
   generalize pV v=V0 at hD0⊢
   unfold Iv
   cases hin:Av q 1 with
   |none=>
    rw[hin] at hN
    rw[Rn hin] at hD⊢
    have hN:Ab Tryz.prog 219 [.d (Ac false q),iv 1] (fun r=>r= .tup [Ay,bv false]):=hN
    generalize pK []=K at hD⊢
    generalize pV []=V at hD⊢
    generalize D9 []=O at hD⊢
    refine acQ 69 Tryz.func172 rfl rfl fun _ _ _=> ?_
    (repeat'((conv=>whnf);first|refine NBr.yes ?_|refine NBr.no ?_|refine NCall.eq hS A6 ?_|refine NIdx.tab (fun _=>rfl) g0 ?_|refine NCall.eq hN0 A6 ?_|refine NCall.eq hD0 A6 ?_|refine NSl.tab (fun _=>rfl) 1 2 [q] rfl ?_|refine NIdx.tab (fun _=>rfl) g1 ?_|refine NCall.eq hN A6 ?_|refine NCall.le hD K5 ?_|refine NFact.go ⟨by decide+kernel,by kernel_rfl⟩ ?_));(all_goals(conv=>whnf))
    all_goals exact NEnd.eq leQ
   |some v=>
    rw[hin] at hN
    rw[D2 hin] at hD⊢
    have hN:Ab Tryz.prog 219 [.d (Ac false q),iv 1] (fun r=>r= .tup [.d (Ac false v),bv true]):=hN
    generalize pK v=K at hD⊢
    generalize pV v=V at hD⊢
    generalize D9 v=O at hD⊢
    refine acQ 69 Tryz.func172 rfl rfl fun _ _ _=> ?_
    (repeat'((conv=>whnf);first|refine NBr.yes ?_|refine NBr.no ?_|refine NCall.eq hS A6 ?_|refine NIdx.tab (fun _=>rfl) g0 ?_|refine NCall.eq hN0 A6 ?_|refine NCall.eq hD0 A6 ?_|refine NSl.tab (fun _=>rfl) 1 2 [q] rfl ?_|refine NIdx.tab (fun _=>rfl) g1 ?_|refine NCall.eq hN A6 ?_|refine NCall.eq hD A6 ?_|refine NFact.go ⟨by decide+kernel,by kernel_rfl⟩ ?_));(all_goals(conv=>whnf))
    all_goals exact NEnd.eq leQ
theorem Ts (b:List UInt8) (hb:b.length≤1000000000):Ab Tryz.prog 125 [.d (Ac false b)] (fun r=>r=bv (Fx b)):=by
 rw[Pc]
 rcases Rf b hb with⟨h1,ta,tq,tm,tk,tl,tcs,hT⟩|⟨h1,hT⟩
 ·rw[h1]
  refine acQ 13 Tryz.func125 rfl rfl fun _ _ _=> ?_
  (repeat'((conv=>whnf);refine NCall.eq hT A6 ?_));(all_goals(conv=>whnf))
  all_goals exact NEnd.eq leQ
 ·generalize Jp b=tO at hT
  generalize H6 b=tc at hT h1⊢
  have g1:((tc:Int)==0)=(tc==0):=Hv tc 0
  refine acQ 13 Tryz.func125 rfl rfl fun _ _ _=> ?_
  (repeat'((conv=>whnf);refine NCall.eq hT A6 ?_));(all_goals(conv=>whnf))
  all_goals(refine NEnd.eq ?_;(repeat'(first|refine And.intro ?_ ?_|exact rfl));(all_goals(conv=>whnf)))
  all_goals exact g1
theorem G5 (n:Nat) (b:List UInt8) (hn:n≤30) (hb:b.length≤900000000):Ab Tryz.prog 126 [iv n,.d (Ac false b)] (fun r=>r= .tup [B7 0 5 (Ae 2 n true b),iv 0]):=by
 have hW:=Cj 2 n true b (by omega) hn hb
 refine acQ 12 Tryz.func126 rfl rfl fun _ _ _=> ?_
 (repeat'((conv=>whnf);refine NCall.eq hW A6 ?_));(all_goals(conv=>whnf))
 all_goals exact NEnd.eq leQ
theorem fD (k:Int):(k=0∨k=1∨k=2∨k=3∨k=4∨k=5∨k=6∨k=7∨k=8)∨((k==0)=false∧(k==1)=false∧(k==2)=false∧(k==3)=false∧(k==4)=false∧(k==5)=false∧(k==6)=false∧(k==7)=false∧(k==8)=false):=by
 simp only[beq_eq_false_iff_ne];omega
def Cs (k:Int):Bool:=k==0||(k==3||(k==4||k==5))
theorem Ys (k:Int):Ab Tryz.prog 94 [iv k] (fun r=>r=bv (Cs k)):=by
 rcases fD k with(h|h|h|h|h|h|h|h|h)|⟨h0,h1,h2,h3,h4,h5,h6,h7,h8⟩
 case inr=>
  rw[show Cs k=false by unfold Cs;rw[h0,h3,h4,h5];rfl]
  refine acQ 9 Tryz.func94 rfl rfl fun _ _ _=> ?_
  (repeat'((conv=>whnf);refine NBr.neg asP ?_));(all_goals(conv=>whnf))
  all_goals exact NEnd.eq leQ
 all_goals
  subst h
  refine acQ 9 Tryz.func94 rfl rfl fun _ _ _=> ?_
  (repeat'((conv=>whnf);first|refine NBr.yes ?_|refine NBr.no ?_));(all_goals(conv=>whnf))
  all_goals exact NEnd.eq leQ
def ip (n:Nat):Bool:=n==4||(n==8||(n==16||n==32))
def Ro (g:Gn):Bool:=if g.k=0 then Fx g.by' else if g.k=3 then Fx (Ae 2 3 true g.by') else if g.k=7 then ip g.by'.length else true
theorem Tt (g:Gn) (hb:g.by'.length≤100000000):Ab Tryz.prog 92 [gnA g] (fun r=>r=bv (Ro g)):=by
 obtain⟨k,oid,tx,by',nm,ak,av,pk,pv⟩:=g
 simp only at hb
 have hO:=Ts by' (by omega)
 have hX:=G5 3 by' (by omega) (by omega)
 have hle:=Ao 2 3 true by' (by omega)
 have hO3:=Ts (Ae 2 3 true by') (by omega)
 unfold Ro
 simp only
 rcases fD k with(h|h|h|h|h|h|h|h|h)|⟨h0,h1,h2,h3,h4,h5,h6,h7,h8⟩
 case inr=>
  rw[if_neg (by simpa using h0),if_neg (by simpa using h3),if_neg (by simpa using h7)]
  refine acQ 48 Tryz.func92 rfl rfl fun _ _ _=> ?_
  (repeat'((conv=>whnf);refine NBr.neg asP ?_));(all_goals(conv=>whnf))
  all_goals exact NEnd.eq leQ
 case inl.inr.inr.inr.inr.inr.inr.inr.inl=>
  subst h
  rw[if_neg (by decide),if_neg (by decide),if_pos rfl]
  unfold ip
  have b1:=Hv by'.length 4
  have b2:=Hv by'.length 8
  have b3:=Hv by'.length 16
  have b4:=Hv by'.length 32
  generalize (by'.length==4)=c1 at b1⊢
  generalize (by'.length==8)=c2 at b2⊢
  generalize (by'.length==16)=c3 at b3⊢
  generalize (by'.length==32)=c4 at b4⊢
  cases c1<;>cases c2<;>cases c3<;>cases c4
  all_goals
   refine acQ 48 Tryz.func92 rfl rfl fun _ _ _=> ?_
   (repeat'((conv=>whnf);first|refine NBr.yes ?_|refine NBr.no ?_|refine NBr.pos asP ?_|refine NBr.neg asP ?_));(all_goals(conv=>whnf))
   all_goals(refine NEnd.eq ?_;(repeat'(first|exact B8 _|refine And.intro ?_ ?_|exact rfl));(all_goals(conv=>whnf)))
   all_goals exact b4
 case inl.inl=>
  subst h
  rw[if_pos rfl]
  refine acQ 48 Tryz.func92 rfl rfl fun _ _ _=> ?_
  (repeat'((conv=>whnf);first|refine NBr.yes ?_|refine NCall.eq hO A6 ?_));(all_goals(conv=>whnf))
  all_goals exact NEnd.eq leQ
 case inl.inr.inr.inr.inl=>
  subst h
  rw[if_neg (by decide),if_pos rfl]
  refine acQ 48 Tryz.func92 rfl rfl fun _ _ _=> ?_
  (repeat'((conv=>whnf);first|refine NBr.yes ?_|refine NBr.no ?_|refine NCall.eq hX A6 ?_|refine NCall.eq hO3 A6 ?_));(all_goals(conv=>whnf))
  all_goals exact NEnd.eq leQ
 all_goals
  subst h
  rw[if_neg (by decide),if_neg (by decide),if_neg (by decide)]
  refine acQ 48 Tryz.func92 rfl rfl fun _ _ _=> ?_
  (repeat'((conv=>whnf);refine NBr.no ?_));(all_goals(conv=>whnf))
  all_goals exact NEnd.eq leQ
def zT (k:Int) (l:List UInt8):Bool:=k==0&&l==[]
def alB (a b c d e:Bool) (g:Gn):Bool:=(a||g.oid==[])&&((b||g.tx==[])&&((c||(g.by'.length:Int)==0)&&((d||(g.nm.length:Int)==0)&&(e||(zT g.ak g.av&&zT g.pk g.pv)))))
def Fj (g:Gn):Bool:=alB (g.k==0||g.k==8) (g.k==1||(g.k==2||g.k==6)) (g.k==0||(g.k==3||g.k==7)) (g.k==4) (g.k==5) g
theorem kQ (g:Gn):Ab Tryz.prog 91 [gnA g] (fun r=>r=bv (Fj g)):=by
 obtain⟨k,oid,tx,by',nm,ak,av,pk,pv⟩:=g
 unfold Fj alB zT
 simp only
 rcases fD k with(h|h|h|h|h|h|h|h|h)|⟨h0,h1,h2,h3,h4,h5,h6,h7,h8⟩
 case inr=>
  rw[h0,h1,h2,h3,h4,h5,h6,h7,h8]
  refine acQ 86 Tryz.func91 rfl rfl fun _ _ _=> ?_
  (repeat'((conv=>whnf);first|refine NBr.yes ?_|refine NBr.no ?_|refine NBr.neg asP ?_|refine NStep.go (Fg rfl rfl (ltN rfl) rfl rfl) ?_|(refine NBr.dec (fun hc hcP=> ?_) (fun hc hcP=> ?_)<;>try(exfalso;omega))|refine NBr.mk (fun hc=> ?_) (fun hc=> ?_)));(all_goals(conv=>whnf))
  all_goals(refine NEnd.eq ?_;(repeat'(first|refine And.intro ?_ ?_|exact rfl));(all_goals(conv=>whnf)))
  all_goals(simp_all)
 all_goals
  subst h
  refine acQ 86 Tryz.func91 rfl rfl fun _ _ _=> ?_
  (repeat'((conv=>whnf);first|refine NBr.yes ?_|refine NBr.no ?_|refine NStep.go (Fg rfl rfl (ltN rfl) rfl rfl) ?_|(refine NBr.dec (fun hc hcP=> ?_) (fun hc hcP=> ?_)<;>try(exfalso;omega))|refine NBr.mk (fun hc=> ?_) (fun hc=> ?_)));(all_goals(conv=>whnf))
  all_goals(refine NEnd.eq ?_;(repeat'(first|refine And.intro ?_ ?_|exact rfl));(all_goals(conv=>whnf)))
  all_goals(simp_all)
def AQ (a b:List UInt8):Nat→List UInt8
 |0=>[]
 |1=>a
 |_+2=>a++b
def Sp (g:Gn):Option (List UInt8):=
 if(zT g.ak g.av||Ah g.ak g.av)&&Ah g.pk g.pv then some ((if zT g.ak g.av then [] else Ae 2 0 true (txE g.ak g.av))++Ae 2 1 true (txE g.pk g.pv)) else none
def Eb (g:Gn):Option (List UInt8):=
 if g.k=0 then(if Ft g.oid then some (Ae 0 6 false (Bj g.oid)++Ae 2 0 true g.by') else none)
 else if g.k=1∨g.k=2∨g.k=6 then(if Ah 22 g.tx then some (chS 22 g.tx) else none)
 else if g.k=3∨g.k=7 then some g.by'
 else if g.k=4 then(if nmV g.nm then some (nmE g.nm) else none)
 else if g.k=5 then Sp g
 else if g.k=8 then(if Ft g.oid then some (Bj g.oid) else none)
 else none
def BH:Option (List UInt8)→AV
 |some c=> .tup [.d (Ac false c),iv 0]
 |none=> .tup [.d (Ac false []),iv 8]
structure Gn.sm (g:Gn):Prop where
 o:g.oid.length≤3000000
 t:g.tx.length≤3000000
 b:g.by'.length≤3000000
 n:nmZ g.nm
 a:g.av.length≤3000000
 p:g.pv.length≤3000000
theorem G6 {k:Int} {l:List UInt8} (h:Ah k l=true) (hl:l.length≤3000000):(txE k l).length≤4*l.length+6:=by
 have h4:=Kg h
 have:=Ao 0 k.toNat false (chS k l) (by omega)
 unfold txE;omega
theorem wI {k:Int} {l:List UInt8} (hl:l.length≤3000000) (h:Ah k l=true):Ab Tryz.prog 129 [txA k l] (fun r=>r= .tup [B7 0 5 (txE k l),iv 0]):=by
 have:=Jq k l (by omega)
 rwa[frS,if_pos h] at this
theorem wJ {k:Int} {l:List UInt8} (hl:l.length≤3000000) (h:Ah k l=false):Ab Tryz.prog 129 [txA k l] (fun r=>r= .tup [Ay,iv 8]):=by
 have:=Jq k l (by omega)
 rwa[frS,if_neg (by rw[h];simp)] at this
theorem Pf {s:List UInt8} (h:Ft s=false):jU s=8∧Bj s=[]:=by
 unfold Ft at h;unfold jU Bj
 cases ha:Dv s with
 |none=>exact⟨rfl,rfl⟩
 |some a=>rw[ha] at h;cases h
theorem Iw {p:Prop} (h:p:=by first|rfl|(simp only[AV.gives,AV.ren,AV.give,D.un,D.uns,Ag,Ai,List.nil_append,List.append_nil,List.cons_append,Al,A3,Bz,Bd,Aw,Bt,Cd,Ce,Bg];first|done|rfl)):p:=h
theorem Vp (g:Gn) (hs:g.sm):Ab Tryz.prog 93 [gnA g] (fun r=>r=BH (Eb g)):=by
 obtain⟨k,oid,tx,by',nm,ak,av,pk,pv⟩:=g
 obtain⟨s1,s2,s3,s4,s5,s6⟩:=hs
 simp only at s1 s2 s3 s4 s5 s6
 have k1:=H4 oid
 have hE:=Q5 oid (by omega)
 have hW:=Cj 0 6 false (Bj oid) (by omega) (by omega) (by omega)
 have hX:=G5 0 by' (by omega) (by omega)
 have hle:=Ao 2 0 true by' (by omega)
 have hlo:=Ao 0 6 false (Bj oid) (by omega)
 have hCo:=K8 [Ae 0 6 false (Bj oid),Ae 2 0 true by'] (by simp;omega) (by simp)
 rw[show [Ae 0 6 false (Bj oid),Ae 2 0 true by'].flatten=Ae 0 6 false (Bj oid)++Ae 2 0 true by' by simp] at hCo
 have hT:Ab Tryz.prog 127 [.agg [iv 22,.d (.v (.string ⟨⟨tx⟩⟩))]] (fun r=>r= .tup [.d (Ac true (I9 22 tx)),iv (T8 22 tx)]):=L5 22 tx (by omega)
 have hN:=kN nm s4
 unfold Eb
 simp only
 rcases fD k with(h|h|h|h|h|h|h|h|h)|⟨h0,h1,h2,h3,h4,h5,h6,h7,h8⟩
 case inr=>
  have e:¬k=0∧¬(k=1∨k=2∨k=6)∧¬(k=3∨k=7)∧¬k=4∧¬k=5∧¬k=8:=by
   simp only[beq_eq_false_iff_ne] at h0 h1 h2 h3 h4 h5 h6 h7 h8;omega
  rw[if_neg e.1,if_neg e.2.1,if_neg e.2.2.1,if_neg e.2.2.2.1,if_neg e.2.2.2.2.1,if_neg e.2.2.2.2.2]
  show Ab _ _ _ (fun r=>r= .tup [.d (Ac false []),iv 8])
  refine acQ 118 Tryz.func93 rfl rfl fun _ _ _=> ?_
  (repeat'((conv=>whnf);refine NBr.neg asP ?_));(all_goals(conv=>whnf))
  all_goals exact NEnd.eq leQ
 case inl.inl=>
  subst h
  rw[if_pos rfl]
  cases ho:Ft oid
  ·rw[(Pf ho).1,(Pf ho).2] at hE
   show Ab _ _ _ (fun r=>r= .tup [.d (Ac false []),iv 8])
   refine acQ 118 Tryz.func93 rfl rfl fun _ _ _=> ?_
   (repeat'((conv=>whnf);first|refine NBr.yes ?_|refine NCall.eq hE rfl ?_));(all_goals(conv=>whnf))
   all_goals exact NEnd.eq leQ
  ·rw[(Nl oid).1 ho] at hE
   show Ab _ _ _ (fun r=>r= .tup [.d (Ac false (Ae 0 6 false (Bj oid)++Ae 2 0 true by')),iv 0])
   refine acQ 118 Tryz.func93 rfl rfl fun _ _ _=> ?_
   (repeat'((conv=>whnf);first|refine NBr.yes ?_|refine NBr.no ?_|refine NCall.eq hE rfl ?_|refine NCall.eq hW Iw ?_|refine NCall.eq hX Iw ?_|refine NCall.eq hCo Iw ?_));(all_goals(conv=>whnf))
   all_goals exact NEnd.eq leQ
 case inl.inr.inr.inr.inr.inl=>
  subst h
  rw[if_neg (by decide),if_neg (by decide),if_neg (by decide),if_pos rfl]
  cases ho:nmV nm
  ·rw[if_neg (by rw[ho];simp)] at hN
   show Ab _ _ _ (fun r=>r= .tup [.d (Ac false []),iv 8])
   refine acQ 118 Tryz.func93 rfl rfl fun _ _ _=> ?_
   (repeat'((conv=>whnf);first|refine NBr.yes ?_|refine NBr.no ?_|refine NCall.eq hN Iw ?_));(all_goals(conv=>whnf))
   all_goals exact NEnd.eq leQ
  ·rw[if_pos ho] at hN
   show Ab _ _ _ (fun r=>r= .tup [.d (Ac false (nmE nm)),iv 0])
   refine acQ 118 Tryz.func93 rfl rfl fun _ _ _=> ?_
   (repeat'((conv=>whnf);first|refine NBr.yes ?_|refine NBr.no ?_|refine NCall.eq hN Iw ?_));(all_goals(conv=>whnf))
   all_goals exact NEnd.eq leQ
 case inl.inr.inr.inr.inr.inr.inl=>
  subst h
  rw[if_neg (by decide),if_neg (by decide),if_neg (by decide),if_neg (by decide),if_pos rfl]
  unfold Sp
  simp only
  generalize hz:zT ak av=z
  have gz':(ak==0&&av==[])=z:=hz
  generalize hpre:(if z=true then [] else Ae 2 0 true (txE ak av))=pre
  have hprel:(z||Ah ak av)=true→pre.length≤13000000:=fun h=>by
   cases z
   ·rw[Bool.false_or] at h
    have h1:=G6 h s5
    have h2:=Ao 2 0 true (txE ak av) (by omega)
    rw[←hpre,if_neg (by simp)];omega
   ·rw[←hpre,if_pos rfl];simp
  refine acQ 118 Tryz.func93 rfl rfl fun _ _ _=> ?_
  (repeat'((conv=>whnf);first|refine NBr.yes ?_|refine NBr.no ?_));(all_goals(conv=>whnf))
  refine NLoop.goA [.s 8 1 5] (fun i:Nat=>i≤2∧(1≤i→(z||Ah ak av)=true)∧(2≤i→Ah pk pv=true)) (fun i=>2-i) (fun i=>⟨[(1,.ptr 1 0),(8,B7 8 5 (AQ pre (Ae 2 1 true (txE pk pv)) i)),(15,iv 5),(75,.d (.sl false 2 2 [iD ak,sD av,iD pk,sD pv])),(76,iv 2),(77,iv i)],[(1,[iv 5,.d (sD oid),.d (sD tx),.d (Ac false by'),.d (E5 nm),iv ak,.d (sD av),iv pk,.d (sD pv)])],[(8,((AQ pre (Ae 2 1 true (txE pk pv)) i).length,1,5))]⟩) 0 ⟨by omega,by omega,by omega⟩ leQ ?_
  rintro i ⟨hi,hA,hP⟩
  match i,hi with
  |0,_=>
   cases z
   ·cases ha:Ah ak av
    ·have hF:=wJ s5 ha
     rw[show((false||false)&&Ah pk pv)=false by rfl,if_neg (by simp)]
     (repeat'((conv=>whnf);first|refine NBr.yes ?_|refine NBr.neg asP ?_|refine NIdx.at 0 ?_|refine NStep.go (Fg rfl rfl (ltN rfl) rfl rfl) ?_|refine NCall.eq hF rfl ?_));(all_goals(conv=>whnf))
     all_goals exact NEnd.eq leQ
    ·have hF:=wI s5 ha
     have h1:=G6 ha s5
     have hX:=G5 0 (txE ak av) (by omega) (by omega)
     have h2:=Ao 2 0 true (txE ak av) (by omega)
     rw[if_neg (by simp)] at hpre
     rw[←hpre]
     (repeat'((conv=>whnf);first|refine NBr.yes ?_|refine NBr.no ?_|refine NBr.neg asP ?_|refine NIdx.at 0 ?_|refine NStep.go (Fg rfl rfl (ltN rfl) rfl rfl) ?_|refine NCall.eq hF rfl ?_|refine NCall.eq hX Iw ?_|(refine NApp.bytes ?_ (by show([]:List UInt8).length+_≤_;simp only[List.length_nil];omega))|(with_reducible refine NInt.i64 ?_)));(all_goals(conv=>whnf))
     refine⟨1,⟨by omega,fun _=>rfl,by omega⟩,by omega,?_⟩
     exact leQ
   ·rw[if_pos rfl] at hpre
    rw[←hpre]
    (repeat'((conv=>whnf);first|refine NBr.yes ?_|refine NBr.pos asP ?_|refine NIdx.at 0 ?_|refine NStep.go (Fg rfl rfl (ltN rfl) rfl rfl) ?_|(with_reducible refine NInt.i64 ?_)));(all_goals(conv=>whnf))
    refine⟨1,⟨by omega,fun _=>rfl,by omega⟩,by omega,?_⟩
    exact leQ
  |1,_=>
   have hA:=hA (by omega)
   have hpl:=hprel hA
   cases hp:Ah pk pv
   ·have hF:=wJ s6 hp
    rw[Bool.and_false,if_neg (by simp)]
    (repeat'((conv=>whnf);first|refine NBr.yes ?_|refine NBr.no ?_|refine NIdx.at 1 ?_|refine NCall.eq hF rfl ?_));(all_goals(conv=>whnf))
    all_goals exact NEnd.eq leQ
   ·have hF:=wI s6 hp
    have h1:=G6 hp s6
    have hX:=G5 1 (txE pk pv) (by omega) (by omega)
    have h2:=Ao 2 1 true (txE pk pv) (by omega)
    (repeat'((conv=>whnf);first|refine NBr.yes ?_|refine NBr.no ?_|refine NIdx.at 1 ?_|refine NCall.eq hF rfl ?_|refine NCall.eq hX Iw ?_|(refine NApp.bytes ?_ (by show pre.length+_≤_;omega))|(with_reducible refine NInt.i64 ?_)));(all_goals(conv=>whnf))
    refine⟨2,⟨by omega,fun _=>hA,fun _=>rfl⟩,by omega,?_⟩
    exact leQ
  |2,_=>
   rw[hA (by omega),hP (by omega)]
   (repeat'((conv=>whnf);refine NBr.no ?_));(all_goals(conv=>whnf))
   all_goals exact NEnd.eq leQ
 case inl.inr.inr.inr.inr.inr.inr.inr.inr=>
  subst h
  rw[if_neg (by decide),if_neg (by decide),if_neg (by decide),if_neg (by decide),if_neg (by decide),if_pos rfl]
  cases ho:Ft oid
  ·rw[(Pf ho).1,(Pf ho).2] at hE
   show Ab _ _ _ (fun r=>r= .tup [.d (Ac false []),iv 8])
   refine acQ 118 Tryz.func93 rfl rfl fun _ _ _=> ?_
   (repeat'((conv=>whnf);first|refine NBr.yes ?_|refine NBr.no ?_|refine NCall.eq hE rfl ?_));(all_goals(conv=>whnf))
   all_goals exact NEnd.eq leQ
  ·rw[(Nl oid).1 ho] at hE
   show Ab _ _ _ (fun r=>r= .tup [.d (Ac false (Bj oid)),iv 0])
   refine acQ 118 Tryz.func93 rfl rfl fun _ _ _=> ?_
   (repeat'((conv=>whnf);first|refine NBr.yes ?_|refine NBr.no ?_|refine NCall.eq hE rfl ?_));(all_goals(conv=>whnf))
   all_goals exact NEnd.eq leQ
 case inl.inr.inr.inr.inl=>
  subst h
  rw[if_neg (by decide),if_neg (by decide),if_pos (by decide)]
  show Ab _ _ _ (fun r=>r= .tup [.d (Ac false by'),iv 0])
  refine acQ 118 Tryz.func93 rfl rfl fun _ _ _=> ?_
  (repeat'((conv=>whnf);first|refine NBr.yes ?_|refine NBr.no ?_));(all_goals(conv=>whnf))
  all_goals exact NEnd.eq leQ
 case inl.inr.inr.inr.inr.inr.inr.inr.inl=>
  subst h
  rw[if_neg (by decide),if_neg (by decide),if_pos (by decide)]
  show Ab _ _ _ (fun r=>r= .tup [.d (Ac false by'),iv 0])
  refine acQ 118 Tryz.func93 rfl rfl fun _ _ _=> ?_
  (repeat'((conv=>whnf);first|refine NBr.yes ?_|refine NBr.no ?_));(all_goals(conv=>whnf))
  all_goals exact NEnd.eq leQ
 all_goals
  subst h
  rw[if_neg (by decide),if_pos (by decide)]
  unfold I9 T8 at hT
  cases hv:Ah 22 tx
  ·rw[hv] at hT
   show Ab _ _ _ (fun r=>r= .tup [.d (Ac false []),iv 8])
   refine acQ 118 Tryz.func93 rfl rfl fun _ _ _=> ?_
   (repeat'((conv=>whnf);first|refine NBr.yes ?_|refine NBr.no ?_|refine NCall.eq hT rfl ?_));(all_goals(conv=>whnf))
   all_goals exact NEnd.eq leQ
  ·rw[hv] at hT
   show Ab _ _ _ (fun r=>r= .tup [.d (Ac false (chS 22 tx)),iv 0])
   refine acQ 118 Tryz.func93 rfl rfl fun _ _ _=> ?_
   (repeat'((conv=>whnf);first|refine NBr.yes ?_|refine NBr.no ?_|refine NCall.eq hT rfl ?_));(all_goals(conv=>whnf))
   all_goals exact NEnd.eq leQ
end Go.Proofs.YtgpaehhbdbgeaaaGreatDoor
