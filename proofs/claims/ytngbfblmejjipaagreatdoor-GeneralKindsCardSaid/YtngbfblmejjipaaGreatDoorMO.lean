/- MO: the texts Att Att2 Dn Dn2 GenP GenQ GenC, one behind the other. No condition but what each lemma says. -/
import Derived.Test.YtngbfblmejjipaaGreatDoorME
import Derived.Test.YtngbfblmejjipaaGreatDoorMM
import Derived.Test.YtngbfblmejjipaaGreatDoorMI
import Derived.Test.YtngbfblmejjipaaGreatDoorMJ
set_option maxRecDepth 100000
set_option maxHeartbeats 16000000
namespace Go.Proofs.YtngbfblmejjipaaGreatDoor
open Go.RowKit
def Fz (b:List UInt8):Nat:=(B4 b).code
def Hf (b:List UInt8):Nat:=(B4 b).off
theorem Sg (b:List UInt8):Hf b≤b.length:=by
 have hF:=C3 b 16 b.length (by omega) 0 (by omega)
 dsimp only at hF
 unfold Hf B4
 generalize As b 16 0 b.length=r at hF
 by_cases h:r.code=0
 ·obtain⟨s,rfl,h1,h2⟩:=hF.1 h
  by_cases h3:s.stop<b.length
  ·rw[D0 h3];exact h2
  ·rw[Fw h3];exact Nat.zero_le _
 ·obtain⟨h1,h2⟩:=hF.2 h
  obtain⟨l,c,o⟩:=r
  have hl:l=[]:=h2
  subst hl
  rw[Ew];exact h1
theorem M4 (b:List UInt8) (hb:b.length≤1000000000):(Fz b=0∧∃(a q m:Nat) (k:Bool) (l:List UInt8) (cs:List D),Ab Tryz.prog 103 [.d (Ac false b)] (fun r=>r= .tup [.agg [iv a,iv q,bv k,.d (Ac true l),.d (.sl true m 5 cs)],erA 0 0]))∨
 (Fz b≠0∧Ab Tryz.prog 103 [.d (Ac false b)] (fun r=>r= .tup [.agg [iv 0,iv 0,bv false,Be,Be],erA (Fz b) (Hf b)])):=by
 have hP:=Zl b hb
 unfold Fz Hf
 rcases Zm b with⟨s,h⟩|⟨c,o,hc0,h⟩
 ·rw[h] at hP⊢
  obtain⟨a,q,c,n,k,b',ks⟩:=s
  exact .inl ⟨rfl,c,n,ks.length,k,b',Fg true ks,hP⟩
 ·rw[h] at hP⊢
  refine .inr ⟨hc0,?_⟩
  cases c with
  |zero=>exact absurd rfl hc0
  |succ c=>exact hP
def P4 (b:List UInt8):List UInt8:=(b.drop (Ap b).x.body).take ((Ap b).x.stop-(Ap b).x.body)
def M5 (b:List UInt8):Bool:=(Ap b).code==0&&((Ap b).x.c==0&& !(Ap b).x.k)
def K7 (b:List UInt8):Int:=if M5 b then F4 (Ap b).x.n (P4 b) else 0
def P5 (b:List UInt8):List UInt8:=if M5 b then Dg (Ap b).x.n (P4 b) else []
def Vb (b:List UInt8):Bool:=M5 b&&Dk (Ap b).x.n (P4 b)==0
theorem eE (b:List UInt8):(P4 b).length≤b.length:=by
 unfold P4;rw[List.length_take,List.length_drop];omega
theorem Gh {p:Prop} (h:p:=by first|rfl|(simp only[AV.gives,AV.ren,AV.give,D.un,D.uns,Ai,An,List.nil_append,List.append_nil,List.cons_append,A3,Ed,Ee,Dd,Ci,Fe];first|done|rfl)):p:=h
theorem P6 (b:List UInt8) (hb:b.length≤1000000):Ab Tryz.prog 168 [.d (Ac false b)] (fun r=>r= .tup [txA (K7 b) (P5 b),bv (Vb b)]):=by
 have hO:=Jd b (by omega)
 have hF:=B7 b
 have hD:=Jg (Ap b).x.n (P4 b) (by have:=eE b;omega)
 unfold K7 P5 Vb
 have gs:M5 b=((Ap b).code==0&&((Ap b).x.c==0&& !(Ap b).x.k)):=rfl
 unfold P4 at hD⊢
 generalize M5 b=q at gs⊢
 generalize Ap b=r at hO hF hD gs⊢
 obtain⟨⟨c,n,k,p,body,stop⟩,cd,of⟩:=r
 simp only at hF hD gs⊢
 by_cases h1:cd=0
 case neg=>
  have g1:((cd:Int) !=0)=true:=by rw[bne_iff_ne];omega
  have gq:q=false:=by rw[gs,show(cd==0)=false by rw[beq_eq_false_iff_ne];exact h1];rfl
  subst gq
  refine acQ 41 Tryz.func168 rfl rfl fun _ _ _=> ?_
  (repeat'((conv=>whnf);first|refine NBr.yes ?_|refine NBr.pos asP ?_|refine NCall.eq hO Gh ?_));(all_goals(conv=>whnf))
  all_goals exact NEnd.eq leQ
 subst h1
 by_cases h2:c=0
 case neg=>
  have g1:((c:Int) !=0)=true:=by rw[bne_iff_ne];omega
  have gq:q=false:=by rw[gs,show(c==0)=false by rw[beq_eq_false_iff_ne];exact h2];rfl
  subst gq
  refine acQ 41 Tryz.func168 rfl rfl fun _ _ _=> ?_
  (repeat'((conv=>whnf);first|refine NBr.yes ?_|refine NBr.no ?_|refine NBr.pos asP ?_|refine NCall.eq hO Gh ?_));(all_goals(conv=>whnf))
  all_goals exact NEnd.eq leQ
 subst h2
 cases k
 ·have gq:q=true:=gs
  subst gq
  generalize F4 n ((b.drop body).take (stop-body))=K at hD⊢
  generalize Dg n ((b.drop body).take (stop-body))=V at hD⊢
  generalize Dk n ((b.drop body).take (stop-body))=Z at hD⊢
  refine acQ 41 Tryz.func168 rfl rfl fun _ _ _=> ?_
  (repeat'((conv=>whnf);first|refine NBr.no ?_|refine NCall.eq hO Gh ?_|refine NSl.slice (body) (stop) ?_|refine NCall.eq hD Gh ?_|refine NFact.go ⟨by decide+kernel,by kernel_rfl⟩ ?_));(all_goals(conv=>whnf))
  all_goals exact NEnd.eq leQ
 ·have gq:q=false:=gs
  subst gq
  refine acQ 41 Tryz.func168 rfl rfl fun _ _ _=> ?_
  (repeat'((conv=>whnf);first|refine NBr.yes ?_|refine NBr.no ?_|refine NCall.eq hO Gh ?_));(all_goals(conv=>whnf))
  all_goals exact NEnd.eq leQ
def txE (k:Int) (l:List UInt8):List UInt8:=Aj 0 k.toNat false (chS k l)
def frS (k:Int) (l:List UInt8):AV:=if Af k l=true then .tup [Cd 0 5 (txE k l),iv 0] else .tup [Be,iv 8]
theorem Sh {k:Int} {l:List UInt8} (h:Af k l=true):∃n:Nat,12≤n∧n≤30∧k=n:=by
 have hk:¬Ae k<0:=fun hw=>by rw[Kl hw] at h;cases h
 rcases Dz k hk with h|h|h|h|h|h|h<;>exact⟨k.toNat,by omega,by omega,by omega⟩
theorem Ke {k:Int} {l:List UInt8} (h:Af k l=true):(chS k l).length≤4*l.length:=by
 have hv:Go.Lib.validD l=true:=by unfold Af at h;simp at h;exact h.1.1
 rw[←Xj h]
 have hl:(rns l).length≤l.length:=by
  have:=congrArg List.length (Fi l hv)
  have h1:∀q:List Nat,q.length≤(q.flatMap enc).length:=by
   intro q
   induction q with
   |nil=>simp
   |cons a r ih=>rw[List.flatMap_cons,List.length_append,List.length_cons];have:=(D9 a).1;omega
  have:=h1 (rns l)
  omega
 have hw:Ae k≤4:=by unfold Ae;(repeat' split)<;>omega
 have h2:∀q:List Nat,(q.flatMap (S6 (Ae k))).length≤4*q.length:=by
  intro q
  induction q with
  |nil=>simp
  |cons a r ih=>rw[List.flatMap_cons,List.length_append,List.length_cons];have:=Z6 (Ae k) a hw;omega
 have:=h2 (rns l)
 omega
theorem Hg (k:Int) (l:List UInt8) (hl:l.length≤16777216):Ab Tryz.prog 70 [txA k l] (fun r=>r=frS k l):=by
 have hE:=Jf k l (by omega)
 unfold frS
 unfold Gx O0 at hE
 by_cases hv:Af k l=true
 ·rw[if_pos hv]
  rw[if_pos hv,if_pos hv] at hE
  obtain⟨n,n1,n2,rfl⟩:=Sh hv
  have h4:=Ke hv
  have hW:=Fy 0 n false (chS (n:Int) l) (by omega) n2 (by omega)
  have e:txE (n:Int) l=Aj 0 n false (chS (n:Int) l):=by unfold txE;rw[Int.toNat_natCast]
  rw[e]
  refine acQ 20 Tryz.func70 rfl rfl fun _ _ _=> ?_
  (repeat'((conv=>whnf);first|refine NBr.no ?_|refine NCall.eq hE rfl ?_|refine NCall.eq hW Gh ?_));(all_goals(conv=>whnf))
  all_goals exact NEnd.eq leQ
 ·rw[if_neg hv]
  rw[if_neg hv,if_neg hv] at hE
  refine acQ 20 Tryz.func70 rfl rfl fun _ _ _=> ?_
  (repeat'((conv=>whnf);first|refine NBr.yes ?_|refine NCall.eq hE rfl ?_));(all_goals(conv=>whnf))
  all_goals exact NEnd.eq leQ
theorem eF (k:Int):Ab Tryz.prog 169 [iv k] (fun r=>r=bv (k==22||k==26)):=by
 refine acQ 9 Tryz.func169 rfl rfl fun _ _ _=> ?_
 (repeat'((conv=>whnf);first|refine NBr.yes ?_|refine NBr.no ?_|(refine NBr.dec (fun hc hcP=> ?_) (fun hc hcP=> ?_)<;>try(exfalso;omega))));(all_goals(conv=>whnf))
 all_goals(refine NEnd.eq ?_;(repeat'(first|refine And.intro ?_ ?_|exact rfl));(all_goals(conv=>whnf)))
 all_goals(simp_all)
def D1 (b:List UInt8):Bool:=Vb b&&(!(P5 b==[])&& !(K7 b==22||K7 b==26))
def mH (b:List UInt8):AV:=if D1 b=true then .tup [txA (K7 b) (P5 b),bv true] else .tup [txA 0 [],bv false]
theorem Nt (b:List UInt8) (hb:b.length≤1000000):Ab Tryz.prog 122 [.d (Ac false b)] (fun r=>r=mH b):=by
 have hS:=P6 b hb
 have h1:=eF (K7 b)
 unfold mH
 have gs:D1 b=(Vb b&&(!(P5 b==[])&& !(K7 b==22||K7 b==26))):=rfl
 generalize D1 b=q at gs⊢
 generalize K7 b=K at hS h1 gs⊢
 generalize P5 b=V at hS gs⊢
 generalize Vb b=Z at hS gs
 generalize (K==22||K==26)=O at h1 gs
 cases Z
 ·subst gs
  refine acQ 27 Tryz.func122 rfl rfl fun _ _ _=> ?_
  (repeat'((conv=>whnf);first|refine NBr.yes ?_|refine NCall.eq hS Gh ?_));(all_goals(conv=>whnf))
  all_goals exact NEnd.eq leQ
 ·cases hv:(V==[])
  ·rw[hv] at gs
   cases O
   all_goals
    subst gs
    refine acQ 27 Tryz.func122 rfl rfl fun _ _ _=> ?_
    (repeat'((conv=>whnf);first|refine NBr.yes ?_|refine NBr.no ?_|refine NBr.neg asP ?_|refine NCall.eq hS Gh ?_|refine NCall.eq h1 rfl ?_));(all_goals(conv=>whnf))
    all_goals exact NEnd.eq leQ
  ·rw[hv] at gs
   subst gs
   refine acQ 27 Tryz.func122 rfl rfl fun _ _ _=> ?_
   (repeat'((conv=>whnf);first|refine NBr.yes ?_|refine NBr.no ?_|refine NBr.pos asP ?_|refine NCall.eq hS Gh ?_));(all_goals(conv=>whnf))
   all_goals exact NEnd.eq leQ
def atV (a:Att):Bool:=Ff a.oid&&D7 a.val
theorem Lh (b:List UInt8):D7 b=(Fz b==0):=rfl
theorem Bc {p:Prop} (h:p:=by first|rfl|(simp only[AV.gives,AV.ren,AV.give,D.un,D.uns,Ai,An,List.nil_append,List.append_nil,List.cons_append,A3,Ed,Ee,Dd,Ci,Fe];first|done|rfl)):p:=h
theorem Si (a:Att) (ho:a.oid.length≤4000000) (hv:a.val.length≤1000000000):Ab Tryz.prog 192 [atA a] (fun r=>r=bv (atV a)):=by
 have hV:=Pv a.oid ho
 unfold atV
 rw[Lh]
 generalize Ff a.oid=V at hV⊢
 rcases M4 a.val hv with⟨h1,ta,tq,tm,tk,tl,tcs,hT⟩|⟨h1,hT⟩
 ·rw[h1]
  cases V
  all_goals
   refine acQ 19 Tryz.func192 rfl rfl fun _ _ _=> ?_
   (repeat'((conv=>whnf);first|refine NBr.yes ?_|refine NBr.no ?_|refine NCall.eq hT Bc ?_|refine NCall.eq hV rfl ?_));(all_goals(conv=>whnf))
   all_goals exact NEnd.eq leQ
 ·generalize Hf a.val=tO at hT
  generalize Fz a.val=tc at hT h1⊢
  have g1:((tc:Int)==0)=false:=by rw[beq_eq_false_iff_ne];omega
  have g2:(tc==0)=false:=by rw[beq_eq_false_iff_ne];exact h1
  cases V
  all_goals
   refine acQ 19 Tryz.func192 rfl rfl fun _ _ _=> ?_
   (repeat'((conv=>whnf);first|refine NBr.yes ?_|refine NBr.no ?_|refine NCall.eq hT Bc ?_|refine NCall.eq hV rfl ?_));(all_goals(conv=>whnf))
   all_goals(refine NEnd.eq ?_;(repeat'(first|exact Db _|refine And.intro ?_ ?_|exact rfl));(all_goals(conv=>whnf)))
  all_goals(rw[g1,g2];try rfl)
def atE (a:Att):List UInt8:=Aj 0 16 true (Aj 0 6 false (Bj a.oid)++a.val)
theorem P7 {a:Att} (h:atV a=true):Ff a.oid=true∧D7 a.val=true:=by
 unfold atV at h;simpa using h
theorem Nu (a:Att) (ho:a.oid.length≤4000000) (hv:a.val.length≤100000000):Ab Tryz.prog 159 [atA a] (fun r=>r=if atV a=true then .tup [Cd 0 5 (atE a),iv 0] else .tup [Be,iv 8]):=by
 have hV:=Si a ho (by omega)
 by_cases h:atV a=true
 ·rw[if_pos h]
  rw[h] at hV
  have hE:=Mt a.oid ho
  rw[(J7 a.oid).1 (P7 h).1] at hE
  have k1:=Fx a.oid
  have hW:=Fy 0 6 false (Bj a.oid) (by omega) (by omega) (by omega)
  have k2:=B6 0 6 false (Bj a.oid) (by omega)
  have hQ:=iH [Aj 0 6 false (Bj a.oid),a.val] (by simp;omega) (by simp)
  rw[show Aj 0 16 true [Aj 0 6 false (Bj a.oid),a.val].flatten=atE a by simp[atE]] at hQ
  refine acQ 35 Tryz.func159 rfl rfl fun _ _ _=> ?_
  (repeat'((conv=>whnf);first|refine NBr.no ?_|refine NCall.eq hV Bc ?_|refine NCall.eq hE rfl ?_|refine NCall.eq hW Bc ?_|refine NCall.eq hQ Bc ?_));(all_goals(conv=>whnf))
  all_goals exact NEnd.eq leQ
 ·rw[if_neg h]
  rw[show atV a=false by simpa using h] at hV
  refine acQ 35 Tryz.func159 rfl rfl fun _ _ _=> ?_
  (repeat'((conv=>whnf);first|refine NBr.yes ?_|refine NCall.eq hV Bc ?_));(all_goals(conv=>whnf))
  all_goals exact NEnd.eq leQ
def atO (b:List UInt8):Option Att:=match dZ b with
 |some (id,s)=>if D7 s=true then some ⟨id,s⟩ else none
 |none=>none
def M6 (b:List UInt8) (r:LR):Nat×Nat:=if r.code≠0 then(r.code,r.off) else match r.l with
 |[x,y]=>if x.isB 0 6 false=false then(3,x.at') else if odC (bod b x)≠0 then(odC (bod b x),x.body) else(Fz (elO b y),y.at'+Hf (elO b y))
 |_::_::z::_=>(2,z.at')
 |_=>(1,b.length)
def atU (a:Att):List D:=[sD a.oid,Ac true a.val]
def atR (o:Option Att) (e:Nat×Nat):AV:=match o with
 |some a=> .tup [.agg [sx a.oid,.d (Ac true a.val)],erA 0 0]
 |none=> .tup [.agg [sx [],Be],erA e.1 e.2]
theorem Cy (c o:Int):Ab Tryz.prog 227 [iv c,iv o] (fun r=>r= .tup [.agg [sx [],Be],.agg [iv c,iv o]]):=by
 refine acQ 10 Tryz.func227 rfl rfl fun _ _ _=> ?_
 (all_goals(conv=>whnf))
 all_goals exact NEnd.eq leQ
theorem Sj (b:List UInt8) (hb:b.length≤800000):Ab Tryz.prog 198 [.d (Ac false b)] (fun r=>r=atR (atO b) (M6 b (A4 b 0 16))):=by
 have hP:=J5 b 0 16 (by omega)
 have hin:=fun x=>Ej (b:=b) (c:=0) (n:=16) (x:=x)
 have hO:atO b=match Wz b (A4 b 0 16) with
  |some (id,s)=>if D7 s=true then some ⟨id,s⟩ else none
  |none=>none:=rfl
 generalize A4 b 0 16=r at hP hin hO⊢
 by_cases h1:r.code≠0
 ·rw[iY (.inl h1)] at hO
  rw[hO]
  have hF:=Cy r.code r.off
  rw[lrA,if_pos h1] at hP
  have gc:((r.code:Int) !=0)=true:=by rw[bne_iff_ne];omega
  rw[M6,if_pos h1]
  generalize r.code=c at hP gc hF
  generalize r.off=o at hP hF
  refine acQ 127 Tryz.func198 rfl rfl fun _ _ _=> ?_
  (repeat'((conv=>whnf);first|refine NBr.pos asP ?_|refine NCall.eq hP Bc ?_|refine NCall.eq hF rfl ?_));(all_goals(conv=>whnf))
  all_goals exact NEnd.eq leQ
 rw[lrA,if_neg h1] at hP
 rw[M6,if_neg h1]
 obtain⟨l,c,o⟩:=r
 obtain rfl:c=0:=Decidable.not_not.1 h1
 match l with
 |[]=>
  have e:atO b=none:=hO
  rw[e]
  have hF:=Cy 1 b.length
  refine acQ 127 Tryz.func198 rfl rfl fun _ _ _=> ?_
  (repeat'((conv=>whnf);first|refine NBr.yes ?_|refine NBr.no ?_|refine NCall.eq hP Bc ?_|refine NCall.eq hF rfl ?_));(all_goals(conv=>whnf))
  all_goals exact NEnd.eq leQ
 |[x]=>
  have e:atO b=none:=hO
  rw[e]
  have hF:=Cy 1 b.length
  refine acQ 127 Tryz.func198 rfl rfl fun _ _ _=> ?_
  (repeat'((conv=>whnf);first|refine NBr.yes ?_|refine NBr.no ?_|refine NCall.eq hP Bc ?_|refine NCall.eq hF rfl ?_));(all_goals(conv=>whnf))
  all_goals exact NEnd.eq leQ
 |x::y::z::q=>
  have e:atO b=none:=hO
  rw[e]
  have hF:=Cy 2 z.at'
  have g2:(x::y::z::q:List El)[2]?=some z:=rfl
  refine acQ 127 Tryz.func198 rfl rfl fun _ _ _=> ?_
  (repeat'((conv=>whnf);first|refine NBr.no ?_|refine NCall.eq hP Bc ?_|refine NIdx.tab (fun _=>rfl) g2 ?_|refine NCall.eq hF rfl ?_|(refine NBr.mk (fun hc=> ?_) (fun hc=> ?_)<;>(have hcP:=hc;(try simp only[List.length_cons,decide_eq_true_eq,decide_eq_false_iff_not] at hcP)<;>first|(exfalso;omega)|skip))));(all_goals(conv=>whnf))
  all_goals exact NEnd.eq leQ
 |[x,y]=>
  obtain⟨x1,x2,x3⟩:=hin x (by simp)
  obtain⟨y1,y2,y3⟩:=hin y (by simp)
  have hI:=Pn x 0 6 false
  have hlb:(bod b x).length≤b.length:=by unfold bod;rw[List.length_take,List.length_drop];omega
  have hly:(elO b y).length≤b.length:=by unfold elO;rw[List.length_take,List.length_drop];omega
  have hD:=Iq (bod b x) (by omega)
  have hC:=Hu (elO b y) (by omega)
  have hT:=M4 (elO b y) (by omega)
  have hto:=Sg (elO b y)
  have hop:=Lh (elO b y)
  have g0:([x,y]:List El)[0]?=some x:=rfl
  have g1:([x,y]:List El)[1]?=some y:=rfl
  have hO':atO b=match(if x.isB 0 6 false=true∧odC (bod b x)=0 then some (odT (bod b x),elO b y) else none:Option (List UInt8×List UInt8)) with
   |some (id,s)=>if D7 s=true then some ⟨id,s⟩ else none
   |none=>none:=hO
  show Ab _ _ _ (fun r=>r=atR (atO b) (if x.isB 0 6 false=false then(3,x.at') else if odC (bod b x)≠0 then(odC (bod b x),x.body) else(Fz (elO b y),y.at'+Hf (elO b y))))
  cases hi:x.isB 0 6 false
  ·rw[hi] at hI hO'
   rw[if_neg (by simp)] at hO'
   rw[hO',if_pos rfl]
   have hF:=Cy 3 x.at'
   refine acQ 127 Tryz.func198 rfl rfl fun _ _ _=> ?_
   (repeat'((conv=>whnf);first|refine NBr.yes ?_|refine NBr.no ?_|refine NCall.eq hP Bc ?_|refine NIdx.tab (fun _=>rfl) g0 ?_|refine NCall.eq hI rfl ?_|refine NCall.eq hF rfl ?_));(all_goals(conv=>whnf))
   all_goals exact NEnd.eq leQ
  rw[hi] at hI hO'
  rw[if_neg (by simp)]
  by_cases h3:odC (bod b x)=0
  ·rw[if_pos ⟨rfl,h3⟩] at hO'
   rw[if_neg (by omega)]
   have hO2:atO b=if D7 (elO b y)=true then some ⟨odT (bod b x),elO b y⟩ else none:=hO'
   rw[Pw,h3] at hD
   rw[hop] at hO2
   unfold bod at hD hlb hO2
   generalize odT ((b.drop x.body).take (x.stop-x.body))=ot at hD hO2
   unfold elO at hC hT hto hly hO2⊢
   rcases hT with⟨h4,ta,tq,tm,tk,tl,tcs,hT⟩|⟨h4,hT⟩
   ·rw[h4] at hO2
    rw[if_pos (by rfl)] at hO2
    rw[hO2]
    refine acQ 127 Tryz.func198 rfl rfl fun _ _ _=> ?_
    (repeat'((conv=>whnf);first|refine NBr.no ?_|refine NCall.eq hP Bc ?_|refine NIdx.tab (fun _=>rfl) g0 ?_|refine NIdx.tab (fun _=>rfl) g1 ?_|refine NCall.eq hI rfl ?_|refine NSl.slice (x.body) (x.stop) ?_|refine NSl.slice (y.at') (y.stop) ?_|refine NCall.eq hD Bc ?_|refine NCall.eq hC Bc ?_|refine NCall.eq hT Bc ?_|refine NFact.go ⟨by decide+kernel,by kernel_rfl⟩ ?_));(all_goals(conv=>whnf))
    all_goals exact NEnd.eq leQ
   ·rw[if_neg (by rw[beq_iff_eq];exact h4)] at hO2
    rw[hO2]
    have gd:((Fz ((b.drop y.at').take (y.stop-y.at')):Int) !=0)=true:=by rw[bne_iff_ne];omega
    have hF:=Cy (Fz ((b.drop y.at').take (y.stop-y.at'))) ((y.at'+Hf ((b.drop y.at').take (y.stop-y.at')):Nat):Int)
    generalize Hf ((b.drop y.at').take (y.stop-y.at'))=tO at hT hto hF⊢
    generalize Fz ((b.drop y.at').take (y.stop-y.at'))=tC at hT h4 gd hF⊢
    refine acQ 127 Tryz.func198 rfl rfl fun _ _ _=> ?_
    (repeat'((conv=>whnf);first|refine NBr.no ?_|refine NBr.pos asP ?_|refine NCall.eq hP Bc ?_|refine NIdx.tab (fun _=>rfl) g0 ?_|refine NIdx.tab (fun _=>rfl) g1 ?_|refine NCall.eq hI rfl ?_|refine NSl.slice (x.body) (x.stop) ?_|refine NSl.slice (y.at') (y.stop) ?_|refine NCall.eq hD Bc ?_|refine NCall.eq hC Bc ?_|refine NCall.eq hT Bc ?_|refine NInt.as (((y.at'+tO:Nat):Int)) ((by rw[IntWalk.i64_in _ (by omega)];omega)) ?_|refine NCall.eq hF rfl ?_|refine NFact.go ⟨by decide+kernel,by kernel_rfl⟩ ?_));(all_goals(conv=>whnf))
    all_goals exact NEnd.eq leQ
  ·rw[if_neg (fun h=>h3 h.2)] at hO'
   rw[hO',if_pos h3]
   have gd:((odC (bod b x):Int) !=0)=true:=by rw[bne_iff_ne];omega
   have hF:=Cy (odC (bod b x)) x.body
   rw[Pw] at hD
   unfold bod at hD gd hF⊢
   generalize odC ((b.drop x.body).take (x.stop-x.body))=oc at hD gd hF⊢
   generalize odT ((b.drop x.body).take (x.stop-x.body))=ot at hD
   refine acQ 127 Tryz.func198 rfl rfl fun _ _ _=> ?_
   (repeat'((conv=>whnf);first|refine NBr.no ?_|refine NBr.pos asP ?_|refine NCall.eq hP Bc ?_|refine NIdx.tab (fun _=>rfl) g0 ?_|refine NCall.eq hI rfl ?_|refine NSl.slice (x.body) (x.stop) ?_|refine NCall.eq hD Bc ?_|refine NCall.eq hF rfl ?_|refine NFact.go ⟨by decide+kernel,by kernel_rfl⟩ ?_));(all_goals(conv=>whnf))
   all_goals exact NEnd.eq leQ
theorem Sk (b:List UInt8):atO b=none→(M6 b (A4 b 0 16)).1≠0∧(M6 b (A4 b 0 16)).2≤b.length:=by
 have hin:=fun x=>Ej (b:=b) (c:=0) (n:=16) (x:=x)
 have hoff:=Is b 0 16
 have hO:atO b=match Wz b (A4 b 0 16) with
  |some (id,s)=>if D7 s=true then some ⟨id,s⟩ else none
  |none=>none:=rfl
 rw[hO]
 generalize A4 b 0 16=r at hin hoff⊢
 intro h
 unfold M6
 by_cases h1:r.code≠0
 ·rw[if_pos h1];exact⟨h1,hoff⟩
 rw[if_neg h1]
 obtain⟨l,c,o⟩:=r
 obtain rfl:c=0:=Decidable.not_not.1 h1
 match l with
 |[]=>exact⟨by simp,Nat.le_refl _⟩
 |[x]=>exact⟨by simp,Nat.le_refl _⟩
 |x::y::z::q=>
  have:=hin z (by simp)
  exact⟨by simp,by show z.at'≤_;omega⟩
 |[x,y]=>
  have hx:=hin x (by simp)
  have hy:=hin y (by simp)
  have hl:(elO b y).length≤y.stop-y.at':=by unfold elO;rw[List.length_take];omega
  have hto:=Sg (elO b y)
  have h':(match(if x.isB 0 6 false=true∧odC (bod b x)=0 then some (odT (bod b x),elO b y) else none:Option (List UInt8×List UInt8)) with
   |some (id,s)=>if D7 s=true then some (⟨id,s⟩:Att) else none
   |none=>none)=none:=h
  simp only
  cases hi:x.isB 0 6 false
  ·rw[if_pos rfl];exact⟨by simp,by show x.at'≤_;omega⟩
  rw[if_neg (by simp)]
  by_cases h3:odC (bod b x)=0
  ·rw[if_neg (by omega)]
   rw[if_pos ⟨hi,h3⟩] at h'
   have h2:(if D7 (elO b y)=true then some (⟨odT (bod b x),elO b y⟩:Att) else none)=none:=h'
   rw[Lh] at h2
   refine⟨fun e=> ?_,by show y.at'+Hf (elO b y)≤_;omega⟩
   have e:Fz (elO b y)=0:=e
   rw[e,if_pos (by rfl)] at h2;cases h2
  ·rw[if_pos h3];exact⟨h3,by show x.body≤_;omega⟩
def Gt (r:List Att):Bool:= !r.isEmpty&&(r.all atV&&Et (r.map atE))
def Cr (r:List Att):List UInt8:=Aj 0 17 true (r.map atE).flatten
def nmV (n:List (List Att)):Bool:=n.all Gt
def nmE (n:List (List Att)):List UInt8:=Aj 0 16 true (n.map Cr).flatten
theorem P8 {r:List Att} (h:Gt r=true):r≠[]∧r.all atV=true∧Et (r.map atE)=true:=by
 unfold Gt at h
 simp only[Bool.and_eq_true] at h
 exact⟨by rintro rfl;simp at h,h.2.1,h.2.2⟩
theorem W2 {α:Type} {f:α→Bool} {l:List α} {i:Nat} {x:α} (h:l[i]?=some x) (hf:f x=false):l.all f=false:=by
 cases hh:l.all f with
 |false=>rfl
 |true=>rw[List.all_eq_true.1 hh x (List.mem_of_getElem? h)] at hf;cases hf
theorem F1 {p:Prop} (h:p:=by first|rfl|(simp only[AV.gives,AV.ren,AV.give,D.un,D.uns,Ai,An,List.nil_append,List.append_nil,List.cons_append,List.map_cons,List.map_nil,AV.frzs,AV.frz,List.drop_zero,A3,Ed,Ee,Dd,Ci,Fe,Ey,H4];first|done|rfl)):p:=h
theorem Vc (r:List Att) (i:Nat) {x:Att} (hg:r[i]?=some x) (hx:x.oid.length≤4000000∧x.val.length≤100000000):Ab Tryz.prog 158 [iv i,.d (.cp false [Rx r])] (fun r=>r=if atV x=true then .tup [Cd 0 5 (atE x),iv 0] else .tup [Be,iv 8]):=by
 have hM:=Nu x hx.1 hx.2
 by_cases h:atV x=true
 all_goals
  first|rw[if_pos h] at hM⊢ |rw[if_neg h] at hM⊢
  refine acQ 12 Tryz.func158 rfl rfl fun _ _ _=> ?_
  (repeat'((conv=>whnf);first|refine NIdx.tab (fun _=>rfl) hg ?_|refine NCall.eq hM F1 ?_));(all_goals(conv=>whnf))
  all_goals exact NEnd.eq leQ
theorem P9 (r:List Att) (hl:r.length≤100000) (hs:∀x∈r,x.oid.length≤4000000∧x.val.length≤100000000) (hq:(r.map atE).flatten.length≤100000000) (hp:∀x∈r,(atE x).length≤100000000):Ab Tryz.prog 110 [.agg [iv 17,bv true],iv r.length,.cl 158 [] [.d (.cp false [Rx r])]] (fun q=>q=if r.all atV=true∧Et (r.map atE)=true then .tup [Cd 0 5 (Aj 0 17 true (r.map atE).flatten),iv 0] else .tup [Be,iv 8]):=by
 have hW:=Je 0 17 true (r.map atE) (by omega) (by omega) (by omega) (by rw[List.length_map];omega)
 have hO2:=Kv (r.map atE) (by rw[List.length_map];omega) (fun p hp0=>by
  obtain⟨x,hx,rfl⟩:=List.mem_map.1 hp0
  have:=hp x hx;omega)
 refine acQ 43 Tryz.func110 rfl rfl fun _ _ _=> ?_
 (all_goals(conv=>whnf))
 refine NLoop.goA [.s 8 1 22] (fun i:Nat=>i≤r.length∧(r.take i).all atV=true) (fun i=>r.length-i) (fun i=>⟨[(2,.cl 158 [] [.d (.cp false [Rx r])]),(3,.ptr 3 0),(8,Ey 8 1 22 On ((r.take i).map atE)),(12,iv r.length),(13,iv i)],[(3,[iv 17,bv true])],[(8,(((r.take i).map atE).length,1,22))]⟩) 0 ⟨by omega,rfl⟩ leQ ?_
 rintro i ⟨hi,ha⟩
 have hml:((r.take i).map atE).length≤100000:=by rw[List.length_map,List.length_take];omega
 by_cases hik:i<r.length
 ·have gi:decide ((i:Int)<r.length)=true:=decide_eq_true (by omega)
  obtain⟨x,hg⟩:∃p,r[i]?=some p:=⟨_,List.getElem?_eq_getElem hik⟩
  have hO:=Vc r i hg (hs x (List.mem_of_getElem? hg))
  cases hv:atV x
  ·rw[hv,if_neg (by simp)] at hO
   rw[if_neg (by rintro⟨h,-⟩;rw[W2 hg hv] at h;cases h)]
   (repeat'((conv=>whnf);first|refine NBr.yes ?_|refine NBr.pos asP ?_|refine NCall.eq hO F1 ?_));(all_goals(conv=>whnf))
   all_goals exact NEnd.eq leQ
  ·rw[hv,if_pos rfl] at hO
   have hs':=M3 atE hg
   (repeat'((conv=>whnf);first|refine NBr.no ?_|refine NBr.pos asP ?_|refine NCall.eq hO F1 ?_|refine NApp.one On (atE x) ?_|(with_reducible refine NInt.i64 ?_)));(all_goals(conv=>whnf))
   refine⟨i+1,⟨by omega,Om atV hg hv ha⟩,by omega,?_⟩
   rw[hs']
   exact leQ
 ·have gi:decide ((i:Int)<r.length)=false:=decide_eq_false (by omega)
  obtain rfl:i=r.length:=by omega
  rw[List.take_length] at ha⊢
  cases ho:Et (r.map atE)
  ·rw[ho] at hO2
   rw[if_neg (by rintro⟨-,h⟩;cases h)]
   (repeat'((conv=>whnf);first|refine NBr.yes ?_|refine NBr.neg asP ?_|refine NCall.eq hO2 F1 ?_));(all_goals(conv=>whnf))
   all_goals exact NEnd.eq leQ
  ·rw[ho] at hO2
   rw[if_pos ⟨ha,rfl⟩]
   (repeat'((conv=>whnf);first|refine NBr.yes ?_|refine NBr.no ?_|refine NBr.neg asP ?_|refine NCall.eq hO2 F1 ?_|refine NCall.eq hW F1 ?_));(all_goals(conv=>whnf))
   all_goals exact NEnd.eq leQ
structure Att.sm (a:Att):Prop where
 o:a.oid.length≤3000000
 v:a.val.length≤3000000
theorem jC {a:Att} (h:a.sm):(atE a).length≤a.oid.length*5+a.val.length+20:=by
 have h1:=Fx a.oid
 have:=h.o
 have:=h.v
 have h2:=B6 0 6 false (Bj a.oid) (by omega)
 have h3:=B6 0 16 true (Aj 0 6 false (Bj a.oid)++a.val) (by rw[List.length_append];omega)
 rw[List.length_append] at h3
 have e:(atE a).length=(Aj 0 16 true (Aj 0 6 false (Bj a.oid)++a.val)).length:=rfl
 omega
structure rdnZ (r:List Att):Prop where
 l:r.length≤100000
 a:∀a∈r,a.sm
 e:(r.map atE).flatten.length≤90000000
structure nmZ (n:List (List Att)):Prop where
 l:n.length≤100000
 r:∀r∈n,rdnZ r
 e:(n.map Cr).flatten.length≤90000000
theorem Vd (r:List Att) (hz:rdnZ r):Ab Tryz.prog 112 [.d (Rx r)] (fun q=>q=if Gt r=true then .tup [Cd 0 5 (Cr r),iv 0] else .tup [Be,iv 8]):=by
 obtain⟨hl,hs,hq⟩:=hz
 have hS:=P9 r (by omega) (fun a ha=>by have:=(hs a ha).o;have:=(hs a ha).v;exact⟨by omega,by omega⟩) (by omega) (fun a ha=>by have:=jC (hs a ha);have:=(hs a ha).o;have:=(hs a ha).v;omega)
 cases r with
 |nil=>
  show Ab _ _ _ (fun q=>q= .tup [Be,iv 8])
  refine acQ 17 Tryz.func112 rfl rfl fun _ _ _=> ?_
  (repeat'((conv=>whnf);refine NBr.yes ?_));(all_goals(conv=>whnf))
  all_goals exact NEnd.eq leQ
 |cons a q=>
  have gl:(((a::q).length:Int)==0)=false:=by rw[beq_eq_false_iff_ne,List.length_cons];omega
  by_cases h:Gt (a::q)=true
  ·rw[if_pos h]
   rw[if_pos (P8 h).2] at hS
   unfold Cr
   generalize (a::q)=r at hS gl
   refine acQ 17 Tryz.func112 rfl rfl fun _ _ _=> ?_
   (repeat'((conv=>whnf);first|refine NBr.neg asP ?_|refine NCall.eq hS F1 ?_));(all_goals(conv=>whnf))
   all_goals exact NEnd.eq leQ
  ·rw[if_neg h]
   rw[if_neg (fun k=>h (by unfold Gt;rw[k.1,k.2];rfl))] at hS
   generalize (a::q)=r at hS gl
   refine acQ 17 Tryz.func112 rfl rfl fun _ _ _=> ?_
   (repeat'((conv=>whnf);first|refine NBr.neg asP ?_|refine NCall.eq hS F1 ?_));(all_goals(conv=>whnf))
   all_goals exact NEnd.eq leQ
theorem Zr (r:List (List Att)) (i:Nat) {x:List Att} (hg:r[i]?=some x) (hx:rdnZ x):Ab Tryz.prog 111 [iv i,.d (.cp false [G7 r])] (fun r=>r=if Gt x=true then .tup [Cd 0 5 (Cr x),iv 0] else .tup [Be,iv 8]):=by
 have hM:=Vd x hx
 by_cases h:Gt x=true
 all_goals
  first|rw[if_pos h] at hM⊢ |rw[if_neg h] at hM⊢
  refine acQ 12 Tryz.func111 rfl rfl fun _ _ _=> ?_
  (repeat'((conv=>whnf);first|refine NIdx.tab (fun _=>rfl) hg ?_|refine NCall.eq hM F1 ?_));(all_goals(conv=>whnf))
  all_goals exact NEnd.eq leQ
theorem Sl (r:List (List Att)) (hl:r.length≤100000) (hs:∀x∈r,rdnZ x) (hq:(r.map Cr).flatten.length≤100000000) (_:∀x∈r,(Cr x).length≤100000000):Ab Tryz.prog 110 [.agg [iv 16,bv false],iv r.length,.cl 111 [] [.d (.cp false [G7 r])]] (fun q=>q=if r.all Gt=true then .tup [Cd 0 5 (Aj 0 16 true (r.map Cr).flatten),iv 0] else .tup [Be,iv 8]):=by
 have hW:=Je 0 16 true (r.map Cr) (by omega) (by omega) (by omega) (by rw[List.length_map];omega)
 refine acQ 43 Tryz.func110 rfl rfl fun _ _ _=> ?_
 (all_goals(conv=>whnf))
 refine NLoop.goA [.s 8 1 22] (fun i:Nat=>i≤r.length∧(r.take i).all Gt=true) (fun i=>r.length-i) (fun i=>⟨[(2,.cl 111 [] [.d (.cp false [G7 r])]),(3,.ptr 3 0),(8,Ey 8 1 22 On ((r.take i).map Cr)),(12,iv r.length),(13,iv i)],[(3,[iv 16,bv false])],[(8,(((r.take i).map Cr).length,1,22))]⟩) 0 ⟨by omega,rfl⟩ leQ ?_
 rintro i ⟨hi,ha⟩
 have hml:((r.take i).map Cr).length≤100000:=by rw[List.length_map,List.length_take];omega
 by_cases hik:i<r.length
 ·have gi:decide ((i:Int)<r.length)=true:=decide_eq_true (by omega)
  obtain⟨x,hg⟩:∃p,r[i]?=some p:=⟨_,List.getElem?_eq_getElem hik⟩
  have hO:=Zr r i hg (hs x (List.mem_of_getElem? hg))
  cases hv:Gt x
  ·rw[hv,if_neg (by simp)] at hO
   rw[if_neg (by rintro h;rw[W2 hg hv] at h;cases h)]
   (repeat'((conv=>whnf);first|refine NBr.yes ?_|refine NBr.pos asP ?_|refine NCall.eq hO F1 ?_));(all_goals(conv=>whnf))
   all_goals exact NEnd.eq leQ
  ·rw[hv,if_pos rfl] at hO
   have hs':=M3 Cr hg
   (repeat'((conv=>whnf);first|refine NBr.no ?_|refine NBr.pos asP ?_|refine NCall.eq hO F1 ?_|refine NApp.one On (Cr x) ?_|(with_reducible refine NInt.i64 ?_)));(all_goals(conv=>whnf))
   refine⟨i+1,⟨by omega,Om Gt hg hv ha⟩,by omega,?_⟩
   rw[hs']
   exact leQ
 ·have gi:decide ((i:Int)<r.length)=false:=decide_eq_false (by omega)
  obtain rfl:i=r.length:=by omega
  rw[List.take_length] at ha⊢
  rw[if_pos ha]
  (repeat'((conv=>whnf);first|refine NBr.no ?_|refine NBr.neg asP ?_|refine NCall.eq hW F1 ?_));(all_goals(conv=>whnf))
  all_goals exact NEnd.eq leQ
theorem Zs (n:List (List Att)) (h:nmZ n):Ab Tryz.prog 69 [.d (G7 n)] (fun q=>q=if nmV n=true then .tup [Cd 0 5 (nmE n),iv 0] else .tup [Be,iv 8]):=by
 have hq:=h.e
 have hl:=h.l
 have hS:=Sl n (by omega) h.r (by omega) (fun r hr=>by
  have:=Jq (p:=Cr r) (l:=n.map Cr) (List.mem_map_of_mem hr)
  omega)
 unfold nmV nmE
 by_cases hv:n.all Gt=true
 all_goals
  first|rw[if_pos hv] at hS⊢ |rw[if_neg hv] at hS⊢
  refine acQ 14 Tryz.func69 rfl rfl fun _ _ _=> ?_
  (repeat'((conv=>whnf);refine NCall.eq hS F1 ?_));(all_goals(conv=>whnf))
  all_goals exact NEnd.eq leQ
theorem eG (l:List (List UInt8)):D.uns (l.flatMap E5)=l.flatMap E5:=by
 induction l with
 |nil=>rfl
 |cons p r ih=>
  show D.un (Ac false p)::D.uns (r.flatMap E5)=_
  rw[Ai,ih];rfl
def eH (r:List Att):D:=C5 true 2 atU r
theorem jD (l:List Att):D.uns (l.flatMap atU)=l.flatMap atC:=by
 induction l with
 |nil=>rfl
 |cons m r ih=>
  show D.un (sD m.oid)::D.un (Ac true m.val)::D.uns (r.flatMap atU)=_
  rw[Ai,ih];rfl
theorem Gi (r:List Att):(eH r).un=Rx r:=by
 show D.sl false r.length 2 (D.uns (r.flatMap atU))=_
 rw[jD];rfl
def Oq (r:List Att):List D:=[eH r]
def Ot (n:List (List Att)):D:=C5 true 1 Oq n
theorem Zt (n:List (List Att)):D.uns (n.flatMap Oq)=n.flatMap Y1:=by
 induction n with
 |nil=>rfl
 |cons m r ih=>
  show D.un (eH m)::D.uns (r.flatMap Oq)=_
  rw[Gi,ih];rfl
theorem D2 (n:List (List Att)):(Ot n).un=G7 n:=by
 show D.sl false n.length 1 (D.uns (n.flatMap Oq))=_
 rw[Zt];rfl
def Sm (b:List UInt8):Nat×Nat:=M6 b (A4 b 0 16)
def K8 (b:List UInt8):List El→List (List UInt8)→List Att→Option (List Att)×Nat×Nat
 |[],_,out=>(some out,0,0)
 |x::r,ps,out=>match atO (elO b x) with
  |none=>(none,(Sm (elO b x)).1,x.at'+(Sm (elO b x)).2)
  |some a=>if Et (ps++[elO b x])=true then K8 b r (ps++[elO b x]) (out++[a]) else(none,7,x.at')
def jE (b:List UInt8) (r:LR):Option (List Att)×Nat×Nat:=if r.code≠0 then(none,r.code,r.off) else if r.l=[] then(none,1,b.length) else K8 b r.l [] []
def Kf (b:List UInt8):Option (List Att)×Nat×Nat:=jE b (A4 b 0 17)
def oA:Option (List Att)×Nat×Nat→AV
 |(some r,_,_)=> .tup [.d (eH r),erA 0 0]
 |(none,c,o)=> .tup [Be,erA c o]
theorem Qa (b:List UInt8) (x:El):(elO b x).length≤b.length:=by unfold elO;rw[List.length_take,List.length_drop];omega
theorem Qb (b:List UInt8) (x:El):(elO b x).length≤x.stop-x.at':=by unfold elO;rw[List.length_take];omega
theorem D4 {p:Prop} (h:p:=by first|rfl|(simp only[AV.gives,AV.ren,AV.give,D.un,D.uns,Ai,An,List.nil_append,List.append_nil,List.cons_append,A3,Dt,Ed,Ee,Dd,Ci,Fe,Ey,H4,eG];first|done|rfl)):p:=h
theorem Ve (b:List UInt8) (hb:b.length≤800000):Ab Tryz.prog 167 [.d (Ac false b)] (fun r=>r=oA (Kf b)):=by
 have hP:=J5 b 0 17 (by omega)
 have hin:=fun x=>Ej (b:=b) (c:=0) (n:=17) (x:=x)
 have hcn:=M2 b 0 17
 unfold Kf
 generalize A4 b 0 17=R at hP hin hcn⊢
 unfold jE
 by_cases h1:R.code≠0
 ·rw[if_pos h1]
  rw[lrA,if_pos h1] at hP
  have gc:((R.code:Int) !=0)=true:=by rw[bne_iff_ne];omega
  generalize R.code=c at hP gc
  generalize R.off=o at hP
  show Ab _ _ _ (fun r=>r= .tup [Be,erA c o])
  refine acQ 76 Tryz.func167 rfl rfl fun _ _ _=> ?_
  (repeat'((conv=>whnf);first|refine NBr.pos asP ?_|refine NCall.eq hP D4 ?_|refine NFact.go ⟨by decide+kernel,by kernel_rfl⟩ ?_));(all_goals(conv=>whnf))
  all_goals exact NEnd.eq leQ
 rw[if_neg h1]
 rw[lrA,if_neg h1] at hP
 generalize R.l=l at hP hin hcn⊢
 by_cases hl:l=[]
 ·subst hl
  show Ab _ _ _ (fun r=>r= .tup [Be,erA 1 b.length])
  refine acQ 76 Tryz.func167 rfl rfl fun _ _ _=> ?_
  (repeat'((conv=>whnf);first|refine NBr.yes ?_|refine NBr.no ?_|refine NCall.eq hP D4 ?_));(all_goals(conv=>whnf))
  all_goals exact NEnd.eq leQ
 rw[if_neg hl]
 have gl:((l.length:Int)==0)=false:=by rw[beq_eq_false_iff_ne];intro h;exact hl (List.eq_nil_of_length_eq_zero (by omega))
 generalize hQ:K8 b l [] []=q
 refine acQ 76 Tryz.func167 rfl rfl fun _ _ _=> ?_
 (repeat'((conv=>whnf);first|refine NBr.no ?_|refine NBr.neg asP ?_|refine NCall.eq hP D4 ?_));(all_goals(conv=>whnf))
 refine NLoop.goA [.s 6 2 60,.s 7 1 22] (fun z:Nat×List (List UInt8)×List Att=>z.1≤l.length∧z.2.1.length≤z.1∧z.2.2.length≤z.1∧(∀p∈z.2.1,p.length≤b.length)∧q=K8 b (l.drop z.1) z.2.1 z.2.2) (fun z=>l.length-z.1) (fun z=>⟨[(0,.d (Ac false b)),(3,.ptr 3 0),(6,Ey 6 2 60 atU z.2.2),(7,Ey 7 1 22 E5 z.2.1),(27,.d (cW l)),(28,iv l.length),(29,iv z.1)],[(3,[iv 0,iv 0])],[(6,(z.2.2.length,2,60)),(7,(z.2.1.length,1,22))]⟩) (0,[],[]) ⟨by simp,by simp,by simp,by simp,by rw[List.drop_zero];exact hQ.symm⟩ leQ ?_
 rintro⟨i,ps,out⟩ ⟨hi,hps,hou,hpl,he⟩
 simp only at hi hps hou hpl he
 by_cases hik:i<l.length
 ·have gi:decide ((i:Int)<l.length)=true:=decide_eq_true (by omega)
  obtain⟨x,hg⟩:∃p,l[i]?=some p:=⟨_,List.getElem?_eq_getElem hik⟩
  obtain⟨x1,x2,x3⟩:=hin x (List.mem_of_getElem? hg)
  have hel:=Qa b x
  have hle:=Qb b x
  have hA:=Sj (elO b x) (by omega)
  have hAe:=Sk (elO b x)
  rw[Oo hg,K8] at he
  have hA:Ab Tryz.prog 198 [.d (Ac false (elO b x))] (fun r=>r=atR (atO (elO b x)) (Sm (elO b x))):=hA
  have hAe:atO (elO b x)=none→(Sm (elO b x)).1≠0∧(Sm (elO b x)).2≤(elO b x).length:=hAe
  generalize Sm (elO b x)=er at hA hAe he
  cases ho:atO (elO b x) with
  |none=>
   rw[ho] at hA he
   obtain⟨e1,e2⟩:=hAe ho
   obtain⟨ec,eo⟩:=er
   simp only at e1 e2 he
   subst he
   have gc:((ec:Int) !=0)=true:=by rw[bne_iff_ne];omega
   have hA:Ab Tryz.prog 198 [.d (Ac false (elO b x))] (fun r=>r= .tup [.agg [sx [],Be],erA ec eo]):=hA
   unfold elO at hA e2
   (repeat'((conv=>whnf);first|refine NBr.pos asP ?_|refine NIdx.tab (fun _=>rfl) hg ?_|refine NSl.slice (x.at') (x.stop) ?_|refine NApp.one E5 ((b.drop x.at').take (x.stop-x.at')) ?_|refine NCall.eq hA D4 ?_|(with_reducible refine NInt.i64 ?_)|refine NFact.go ⟨by decide+kernel,by kernel_rfl⟩ ?_));(all_goals(conv=>whnf))
   all_goals exact NEnd.eq leQ
  |some a=>
   rw[ho] at hA he
   have hA:Ab Tryz.prog 198 [.d (Ac false (elO b x))] (fun r=>r= .tup [.agg [sx a.oid,.d (Ac true a.val)],erA 0 0]):=hA
   simp only at he
   have hOr:=Kv (ps++[elO b x]) (by rw[List.length_append,List.length_singleton];omega) (fun p hp=>by
    rcases List.mem_append.1 hp with h|h
    ·have:=hpl p h;omega
    ·rw[List.mem_singleton.1 h];omega)
   unfold elO at hA hOr he
   cases hor:Et (ps++[(b.drop x.at').take (x.stop-x.at')])
   ·rw[hor] at hOr he
    rw[if_neg (by simp)] at he
    subst he
    (repeat'((conv=>whnf);first|refine NBr.yes ?_|refine NBr.no ?_|refine NBr.pos asP ?_|refine NIdx.tab (fun _=>rfl) hg ?_|refine NSl.slice (x.at') (x.stop) ?_|refine NApp.one E5 ((b.drop x.at').take (x.stop-x.at')) ?_|refine NCall.eq hA D4 ?_|refine NCall.eq hOr D4 ?_|refine NFact.go ⟨by decide+kernel,by kernel_rfl⟩ ?_));(all_goals(conv=>whnf))
    all_goals exact NEnd.eq leQ
   ·rw[hor] at hOr he
    rw[if_pos rfl] at he
    (repeat'((conv=>whnf);first|refine NBr.no ?_|refine NBr.pos asP ?_|refine NIdx.tab (fun _=>rfl) hg ?_|refine NSl.slice (x.at') (x.stop) ?_|refine NApp.one E5 ((b.drop x.at').take (x.stop-x.at')) ?_|refine NCall.eq hA D4 ?_|refine NCall.eq hOr D4 ?_|refine NApp.one atU a ?_|(with_reducible refine NInt.i64 ?_)));(all_goals(conv=>whnf))
    refine⟨(i+1,ps++[(b.drop x.at').take (x.stop-x.at')],out++[a]),⟨by show i+1≤_;omega,by simp;omega,by simp;omega,fun p hp=> ?_,he⟩,by show l.length-(i+1)<l.length-i;omega,?_⟩
    ·rcases List.mem_append.1 hp with h|h
     ·exact hpl p h
     ·rw[List.mem_singleton.1 h];exact hel
    ·exact leQ
 ·have gi:decide ((i:Int)<l.length)=false:=decide_eq_false (by omega)
  obtain rfl:i=l.length:=by omega
  rw[List.drop_length,K8] at he
  subst he
  (repeat'((conv=>whnf);refine NBr.neg asP ?_));(all_goals(conv=>whnf))
  all_goals exact NEnd.eq leQ
def nmL (b:List UInt8):List El→List (List Att)→Option (List (List Att))×Nat×Nat
 |[],out=>(some out,0,0)
 |x::r,out=>match Kf (elO b x) with
  |(none,c,o)=>(none,c,x.at'+o)
  |(some a,_,_)=>nmL b r (out++[a])
def nmQ (b:List UInt8) (r:LR):Option (List (List Att))×Nat×Nat:=if r.code≠0 then(none,r.code,r.off) else nmL b r.l []
def nmR (b:List UInt8):Option (List (List Att))×Nat×Nat:=nmQ b (A4 b 0 16)
def nmA:Option (List (List Att))×Nat×Nat→AV
 |(some r,_,_)=> .tup [.d (Ot r),erA 0 0]
 |(none,c,o)=> .tup [Be,erA c o]
theorem W4 (b:List UInt8):∀(l:List El) (ps:List (List UInt8)) (out:List Att),(∀x∈l,x.at'≤x.stop∧x.stop≤b.length)→(K8 b l ps out).1=none→(K8 b l ps out).2.1≠0∧(K8 b l ps out).2.2≤b.length
 |[],_,_,_,h=>by cases h
 |x::r,ps,out,hx,h=>by
  have hle:=Qb b x
  have hAe:atO (elO b x)=none→(Sm (elO b x)).1≠0∧(Sm (elO b x)).2≤(elO b x).length:=Sk (elO b x)
  have:=hx x (by simp)
  rw[K8] at h⊢
  cases ho:atO (elO b x) with
  |none=>obtain⟨e1,e2⟩:=hAe ho;exact⟨e1,by show x.at'+_≤_;omega⟩
  |some a=>
   rw[ho] at h
   simp only at h⊢
   by_cases hor:Et (ps++[elO b x])=true
   ·rw[if_pos hor] at h⊢
    exact W4 b r _ _ (fun y hy=>hx y (by simp[hy])) h
   ·rw[if_neg hor];exact⟨by simp,by show x.at'≤_;omega⟩
theorem W6 (b:List UInt8) (h:(Kf b).1=none):(Kf b).2.1≠0∧(Kf b).2.2≤b.length:=by
 have hin:=fun x=>Ej (b:=b) (c:=0) (n:=17) (x:=x)
 have hoff:=Is b 0 17
 unfold Kf at h⊢
 generalize A4 b 0 17=R at hin hoff h⊢
 unfold jE at h⊢
 by_cases h1:R.code≠0
 ·rw[if_pos h1];exact⟨h1,hoff⟩
 rw[if_neg h1] at h⊢
 by_cases hl:R.l=[]
 ·rw[if_pos hl];exact⟨by simp,Nat.le_refl _⟩
 ·rw[if_neg hl] at h⊢
  exact W4 b R.l [] [] (fun y hy=>by have:=hin y hy;omega) h
theorem Zu (b:List UInt8) (hb:b.length≤800000):Ab Tryz.prog 121 [.d (Ac false b)] (fun r=>r=nmA (nmR b)):=by
 have hP:=J5 b 0 16 (by omega)
 have hin:=fun x=>Ej (b:=b) (c:=0) (n:=16) (x:=x)
 have hcn:=M2 b 0 16
 unfold nmR
 generalize A4 b 0 16=R at hP hin hcn⊢
 unfold nmQ
 by_cases h1:R.code≠0
 ·rw[if_pos h1]
  rw[lrA,if_pos h1] at hP
  have gc:((R.code:Int) !=0)=true:=by rw[bne_iff_ne];omega
  generalize R.code=c at hP gc
  generalize R.off=o at hP
  show Ab _ _ _ (fun r=>r= .tup [Be,erA c o])
  refine acQ 54 Tryz.func121 rfl rfl fun _ _ _=> ?_
  (repeat'((conv=>whnf);first|refine NBr.pos asP ?_|refine NCall.eq hP D4 ?_|refine NFact.go ⟨by decide+kernel,by kernel_rfl⟩ ?_));(all_goals(conv=>whnf))
  all_goals exact NEnd.eq leQ
 rw[if_neg h1]
 rw[lrA,if_neg h1] at hP
 generalize R.l=l at hP hin hcn⊢
 generalize hQ:nmL b l []=q
 refine acQ 54 Tryz.func121 rfl rfl fun _ _ _=> ?_
 (repeat'((conv=>whnf);first|refine NBr.no ?_|refine NCall.eq hP D4 ?_));(all_goals(conv=>whnf))
 refine NLoop.goA [.s 6 1 62] (fun z:Nat×List (List Att)=>z.1≤l.length∧z.2.length≤z.1∧q=nmL b (l.drop z.1) z.2) (fun z=>l.length-z.1) (fun z=>⟨[(0,.d (Ac false b)),(3,.ptr 3 0),(6,Ey 6 1 62 Oq z.2),(20,.d (cW l)),(21,iv l.length),(22,iv z.1)],[(3,[iv 0,iv 0])],[(6,(z.2.length,1,62))]⟩) (0,[]) ⟨by simp,by simp,by rw[List.drop_zero];exact hQ.symm⟩ leQ ?_
 rintro⟨i,out⟩ ⟨hi,hou,he⟩
 simp only at hi hou he
 by_cases hik:i<l.length
 ·have gi:decide ((i:Int)<l.length)=true:=decide_eq_true (by omega)
  obtain⟨x,hg⟩:∃p,l[i]?=some p:=⟨_,List.getElem?_eq_getElem hik⟩
  obtain⟨x1,x2,x3⟩:=hin x (List.mem_of_getElem? hg)
  have hel:=Qa b x
  have hle:=Qb b x
  have hA:=Ve (elO b x) (by omega)
  have hAe:=W6 (elO b x)
  rw[Oo hg,nmL] at he
  generalize Kf (elO b x)=er at hA hAe he
  obtain⟨eo,ec,ep⟩:=er
  cases eo with
  |none=>
   obtain⟨e1,e2⟩:=hAe rfl
   simp only at e1 e2 he
   subst he
   have gc:((ec:Int) !=0)=true:=by rw[bne_iff_ne];omega
   have hA:Ab Tryz.prog 167 [.d (Ac false (elO b x))] (fun r=>r= .tup [Be,erA ec ep]):=hA
   unfold elO at hA e2
   (repeat'((conv=>whnf);first|refine NBr.pos asP ?_|refine NIdx.tab (fun _=>rfl) hg ?_|refine NSl.slice (x.at') (x.stop) ?_|refine NCall.eq hA D4 ?_|(with_reducible refine NInt.i64 ?_)|refine NFact.go ⟨by decide+kernel,by kernel_rfl⟩ ?_));(all_goals(conv=>whnf))
   all_goals exact NEnd.eq leQ
  |some a=>
   simp only at he
   have hA:Ab Tryz.prog 167 [.d (Ac false (elO b x))] (fun r=>r= .tup [.d (eH a),erA 0 0]):=hA
   unfold elO at hA
   (repeat'((conv=>whnf);first|refine NBr.no ?_|refine NBr.pos asP ?_|refine NIdx.tab (fun _=>rfl) hg ?_|refine NSl.slice (x.at') (x.stop) ?_|refine NCall.eq hA D4 ?_|refine NApp.one Oq a ?_|(with_reducible refine NInt.i64 ?_)));(all_goals(conv=>whnf))
   refine⟨(i+1,out++[a]),⟨by show i+1≤_;omega,by simp;omega,he⟩,by show l.length-(i+1)<l.length-i;omega,?_⟩
   exact leQ
 ·have gi:decide ((i:Int)<l.length)=false:=decide_eq_false (by omega)
  obtain rfl:i=l.length:=by omega
  rw[List.drop_length,nmL] at he
  subst he
  (repeat'((conv=>whnf);refine NBr.neg asP ?_));(all_goals(conv=>whnf))
  all_goals exact NEnd.eq leQ
theorem eI (b:List UInt8):∀(l:List El) (out:List (List Att)),(∀x∈l,x.at'≤x.stop∧x.stop≤b.length)→(nmL b l out).1=none→(nmL b l out).2.1≠0∧(nmL b l out).2.2≤b.length
 |[],_,_,h=>by cases h
 |x::r,out,hx,h=>by
  have hle:=Qb b x
  have hAe:=W6 (elO b x)
  have:=hx x (by simp)
  rw[nmL] at h⊢
  generalize Kf (elO b x)=er at hAe h⊢
  obtain⟨eo,ec,ep⟩:=er
  cases eo with
  |none=>obtain⟨e1,e2⟩:=hAe rfl;exact⟨e1,by show x.at'+ep≤_;simp only at e2;omega⟩
  |some a=>exact eI b r _ (fun y hy=>hx y (by simp[hy])) h
theorem mI (b:List UInt8) (h:(nmR b).1=none):(nmR b).2.1≠0∧(nmR b).2.2≤b.length:=by
 have hin:=fun x=>Ej (b:=b) (c:=0) (n:=16) (x:=x)
 have hoff:=Is b 0 16
 unfold nmR at h⊢
 generalize A4 b 0 16=R at hin hoff h⊢
 unfold nmQ at h⊢
 by_cases h1:R.code≠0
 ·rw[if_pos h1];exact⟨h1,hoff⟩
 rw[if_neg h1] at h⊢
 exact eI b R.l [] (fun y hy=>by have:=hin y hy;omega) h
abbrev gnQ (g:Gn):AV:= .agg [iv g.k,.d (sD g.oid),.d (sD g.tx),.d (Ac true g.by'),.d (Ot g.nm),iv g.ak,.d (sD g.av),iv g.pk,.d (sD g.pv)]
def gz:Gn:=⟨0,[],[],[],[],0,[],0,[]⟩
abbrev ptA (k:Int) (c:List UInt8):AV:= .agg [iv k,.d (Ac false c)]
abbrev gbA (p:Gn×Bool):AV:= .tup [gnQ p.1,bv p.2]
theorem Bd {p:Prop} (h:p:=by first|rfl|(simp only[AV.gives,AV.ren,AV.give,D.un,D.uns,Ai,An,List.nil_append,List.append_nil,List.cons_append,A3,Dt,Hw,Dd,Ci,Ge,Fe,Gi,D2];first|done|rfl)):p:=h
theorem Kg (k:Int) (c:List UInt8) (hl:c.length≤1000000):Ab Tryz.prog 74 [ptA k c] (fun r=>r=gbA (⟨k,[],Dg 22 c,[],[],0,[],0,[]⟩,Dk 22 c==0)):=by
 have hE:=Jg 22 c hl
 refine acQ 19 Tryz.func74 rfl rfl fun _ _ _=> ?_
 (repeat'((conv=>whnf);refine NCall.eq hE Bd ?_));(all_goals(conv=>whnf))
 all_goals exact NEnd.eq leQ
theorem M7 (k:Int) (c:List UInt8) (hl:c.length≤1000000):Ab Tryz.prog 75 [ptA k c] (fun r=>r=gbA (⟨k,[],[],c,[],0,[],0,[]⟩,true)):=by
 have hE:=Hu c (by omega)
 refine acQ 10 Tryz.func75 rfl rfl fun _ _ _=> ?_
 (repeat'((conv=>whnf);first|refine NCall.eq hE Bd ?_|refine NFact.go ⟨by decide+kernel,by kernel_rfl⟩ ?_));(all_goals(conv=>whnf))
 all_goals exact NEnd.eq leQ
theorem Sn (k:Int) (c:List UInt8) (hl:c.length≤800000):Ab Tryz.prog 78 [ptA k c] (fun r=>r=gbA (⟨k,odT c,[],[],[],0,[],0,[]⟩,(odC c:Int)==0)):=by
 have hE:=Iq c (by omega)
 rw[Pw] at hE
 refine acQ 18 Tryz.func78 rfl rfl fun _ _ _=> ?_
 (repeat'((conv=>whnf);refine NCall.eq hE Bd ?_));(all_goals(conv=>whnf))
 all_goals exact NEnd.eq leQ
def So (k:Int) (c:List UInt8):Gn×Bool:=match nmR c with
 |(some n,_,_)=>(⟨k,[],[],[],n,0,[],0,[]⟩,true)
 |(none,_,_)=>(⟨k,[],[],[],[],0,[],0,[]⟩,false)
theorem eJ (k:Int) (c:List UInt8) (hl:c.length≤800000):Ab Tryz.prog 76 [ptA k c] (fun r=>r=gbA (So k c)):=by
 have hE:=Zu c hl
 have ho:=mI c
 unfold So
 generalize nmR c=q at hE ho⊢
 obtain⟨n,cd,of⟩:=q
 cases n with
 |none=>
  have h0:=(ho rfl).1
  simp only at h0
  have g0:((cd:Int)==0)=false:=by rw[beq_eq_false_iff_ne];omega
  have hE:Ab Tryz.prog 121 [.d (Ac false c)] (fun r=>r= .tup [Be,erA cd of]):=hE
  refine acQ 19 Tryz.func76 rfl rfl fun _ _ _=> ?_
  (repeat'((conv=>whnf);first|refine NCall.eq hE Bd ?_|refine NFact.go ⟨by decide+kernel,by kernel_rfl⟩ ?_));(all_goals(conv=>whnf))
  all_goals(refine NEnd.eq ?_;(repeat'(first|exact trivial|exact Db _|refine And.intro ?_ ?_|exact rfl));(all_goals(conv=>whnf)))
  all_goals exact g0
 |some n=>
  have hE:Ab Tryz.prog 121 [.d (Ac false c)] (fun r=>r= .tup [.d (Ot n),erA 0 0]):=hE
  refine acQ 19 Tryz.func76 rfl rfl fun _ _ _=> ?_
  (repeat'((conv=>whnf);first|refine NCall.eq hE Bd ?_|refine NFact.go ⟨by decide+kernel,by kernel_rfl⟩ ?_));(all_goals(conv=>whnf))
  all_goals exact NEnd.eq leQ
theorem Iu {c p:List UInt8} (h:p∈Co c):p.length≤c.length:=by
 unfold Co at h
 split at h
 ·cases h
 ·obtain⟨x,-,rfl⟩:=List.mem_map.1 h
  exact Qa c x
def inn (b:List UInt8) (n:Nat):List UInt8:=(Bq b n).getD []
theorem jF (b:List UInt8) (n:Nat) (hb:b.length≤1000000000):Ab Tryz.prog 118 [.d (Ac false b),iv n] (fun r=>r=dA (Bq b n)):=Y0 b n hb
theorem Jr (b:List UInt8) (n:Nat):(inn b n).length≤b.length:=by
 unfold inn Bq
 split
 ·exact Nat.zero_le _
 ·show((b.drop _).take _).length≤_;rw[List.length_take,List.length_drop];omega
def Vf (k:Int) (p q:List UInt8):Gn×Bool:=if(Ap p).code≠0∨(Ap p).x.isB 0 6 false=false then(gz,false) else
 (⟨k,odT (p.drop (Ap p).x.body),[],inn q 0,[],0,[],0,[]⟩,(Bq q 0).isSome&&((odC (p.drop (Ap p).x.body):Int)==0))
def Sp (k:Int) (c:List UInt8):Gn×Bool:=match Co c with
 |[p,q]=>Vf k p q
 |_=>(gz,false)
theorem eK (k:Int) (c:List UInt8) (hl:c.length≤800000):Ab Tryz.prog 73 [ptA k c] (fun r=>r=gbA (Sp k c)):=by
 have hS:=Od c (by omega)
 have hm:=fun p=>Iu (c:=c) (p:=p)
 unfold Sp
 generalize Co c=l at hS hm⊢
 match l with
 |[]=>
  refine acQ 62 Tryz.func73 rfl rfl fun _ _ _=> ?_
  (repeat'((conv=>whnf);first|refine NBr.yes ?_|refine NCall.eq hS Bd ?_));(all_goals(conv=>whnf))
  all_goals exact NEnd.eq leQ
 |[x]=>
  refine acQ 62 Tryz.func73 rfl rfl fun _ _ _=> ?_
  (repeat'((conv=>whnf);first|refine NBr.yes ?_|refine NCall.eq hS Bd ?_));(all_goals(conv=>whnf))
  all_goals exact NEnd.eq leQ
 |x::y::z::r=>
  refine acQ 62 Tryz.func73 rfl rfl fun _ _ _=> ?_
  (repeat'((conv=>whnf);first|refine NBr.yes ?_|refine NCall.eq hS Bd ?_));(all_goals(conv=>whnf))
  all_goals exact NEnd.eq leQ
 |[p,q]=>
  have hp:=hm p (by simp)
  have hq:=hm q (by simp)
  have g0:([p,q]:List (List UInt8))[0]?=some p:=rfl
  have g1:([p,q]:List (List UInt8))[1]?=some q:=rfl
  have hO:=Jd p (by omega)
  have hF:=B7 p
  have hI:=Pn (Ap p).x 0 6 false
  show Ab _ _ _ (fun r=>r=gbA (Vf k p q))
  unfold Vf
  by_cases h1:(Ap p).code≠0
  ·rw[if_pos (.inl h1)]
   generalize Ap p=r1 at hO h1
   have gc:((r1.code:Int) !=0)=true:=by rw[bne_iff_ne];omega
   refine acQ 62 Tryz.func73 rfl rfl fun _ _ _=> ?_
   (repeat'((conv=>whnf);first|refine NBr.yes ?_|refine NBr.no ?_|refine NBr.pos asP ?_|refine NCall.eq hS Bd ?_|refine NIdx.tab (fun _=>rfl) g0 ?_|refine NCall.eq hO Bd ?_));(all_goals(conv=>whnf))
   all_goals exact NEnd.eq leQ
  have h1':=Decidable.not_not.1 h1
  cases h2:(Ap p).x.isB 0 6 false
  ·rw[if_pos (.inr rfl)]
   rw[h2] at hI
   generalize Ap p=r1 at hO h1' hI
   obtain⟨x1,c1,o1⟩:=r1
   simp only at h1'
   subst h1'
   refine acQ 62 Tryz.func73 rfl rfl fun _ _ _=> ?_
   (repeat'((conv=>whnf);first|refine NBr.yes ?_|refine NBr.no ?_|refine NCall.eq hS Bd ?_|refine NIdx.tab (fun _=>rfl) g0 ?_|refine NCall.eq hO Bd ?_|refine NCall.eq hI rfl ?_));(all_goals(conv=>whnf))
   all_goals exact NEnd.eq leQ
  ·rw[if_neg (by rintro(h|h);exact h1 h;cases h)]
   rw[h2] at hI
   have hb:=hF.1 h1'
   have hD:=Iq (p.drop (Ap p).x.body) (by rw[List.length_drop];omega)
   have hN:=jF q 0 (by omega)
   have hil:=Jr q 0
   have hC:=Hu (inn q 0) (by omega)
   rw[Pw] at hD
   unfold inn at hC⊢
   generalize Ap p=r1 at hO h1' hI hb hD⊢
   obtain⟨x1,c1,o1⟩:=r1
   simp only at h1' hb hI hD⊢
   subst h1'
   generalize odT (p.drop x1.body)=ot at hD⊢
   generalize odC (p.drop x1.body)=oc at hD⊢
   cases hin:Bq q 0 with
   |none=>
    rw[hin] at hN hC
    have hC:Ab Tryz.prog 119 [.d (Ac false [])] (fun r=>r= .d (Ac true [])):=hC
    have hN:Ab Tryz.prog 118 [.d (Ac false q),iv 0] (fun r=>r= .tup [Be,bv false]):=hN
    refine acQ 62 Tryz.func73 rfl rfl fun _ _ _=> ?_
    (repeat'((conv=>whnf);first|refine NBr.no ?_|refine NCall.eq hS Bd ?_|refine NIdx.tab (fun _=>rfl) g0 ?_|refine NIdx.tab (fun _=>rfl) g1 ?_|refine NCall.eq hO Bd ?_|refine NCall.eq hI rfl ?_|refine NSl.from (x1.body) ?_|refine NCall.eq hD Bd ?_|refine NCall.eq hN Bd ?_|refine NCall.le hC Nq ?_|refine NFact.go ⟨by decide+kernel,by kernel_rfl⟩ ?_));(all_goals(conv=>whnf))
    all_goals exact NEnd.eq leQ
   |some v=>
    rw[hin] at hN hC
    have hC:Ab Tryz.prog 119 [.d (Ac false v)] (fun r=>r= .d (Ac true v)):=hC
    have hN:Ab Tryz.prog 118 [.d (Ac false q),iv 0] (fun r=>r= .tup [.d (Ac false v),bv true]):=hN
    refine acQ 62 Tryz.func73 rfl rfl fun _ _ _=> ?_
    (repeat'((conv=>whnf);first|refine NBr.yes ?_|refine NBr.no ?_|refine NCall.eq hS Bd ?_|refine NIdx.tab (fun _=>rfl) g0 ?_|refine NIdx.tab (fun _=>rfl) g1 ?_|refine NCall.eq hO Bd ?_|refine NCall.eq hI rfl ?_|refine NSl.from (x1.body) ?_|refine NCall.eq hD Bd ?_|refine NCall.eq hN Bd ?_|refine NCall.eq hC Bd ?_|refine NFact.go ⟨by decide+kernel,by kernel_rfl⟩ ?_));(all_goals(conv=>whnf))
    all_goals exact NEnd.eq leQ
def pK (b:List UInt8):Int:=if D1 b=true then K7 b else 0
def pV (b:List UInt8):List UInt8:=if D1 b=true then P5 b else []
theorem Qc (b:List UInt8) (hb:b.length≤1000000):Ab Tryz.prog 122 [.d (Ac false b)] (fun r=>r= .tup [txA (pK b) (pV b),bv (D1 b)]):=by
 have h:=Nt b hb
 unfold mH at h
 unfold pK pV
 cases hd:D1 b
 all_goals
  rw[hd] at h
  exact h
def Kh (k:Int) (q:List UInt8) (ak:Int) (av:List UInt8):Gn×Bool:=(⟨k,[],[],[],[],ak,av,pK (inn q 1),pV (inn q 1)⟩,(Bq q 1).isSome&&D1 (inn q 1))
def K9 (k:Int) (c:List UInt8):Gn×Bool:=match Co c with
 |[p,q]=>if(Bq p 0).isSome&&D1 (inn p 0) then Kh k q (pK (inn p 0)) (pV (inn p 0)) else(gz,false)
 |[q]=>Kh k q 0 []
 |_=>(gz,false)
theorem F2 {b v:List UInt8} {n:Nat} (h:Bq b n=some v):inn b n=v:=by unfold inn;rw[h];rfl
theorem M8 {b:List UInt8} {n:Nat} (h:Bq b n=none):inn b n=[]:=by unfold inn;rw[h];rfl
theorem Az {p:Prop} (h:p:=by first|rfl|(simp only[AV.gives,AV.ren,AV.give,D.un,D.uns,Ai,An,List.nil_append,List.append_nil,List.cons_append,A3,Dt,Hw,Dd,Ci,Ge,Fe,Gi,D2];first|done|rfl)):p:=h
theorem eL (k:Int) (c:List UInt8) (hl:c.length≤800000):Ab Tryz.prog 77 [ptA k c] (fun r=>r=gbA (K9 k c)):=by
 have hS:=Od c (by omega)
 have hm:=fun p=>Iu (c:=c) (p:=p)
 unfold K9
 generalize Co c=l at hS hm⊢
 match l with
 |[]=>
  refine acQ 69 Tryz.func77 rfl rfl fun _ _ _=> ?_
  (repeat'((conv=>whnf);first|refine NBr.yes ?_|refine NBr.no ?_|refine NCall.eq hS Az ?_));(all_goals(conv=>whnf))
  all_goals exact NEnd.eq leQ
 |x::y::z::r=>
  refine acQ 69 Tryz.func77 rfl rfl fun _ _ _=> ?_
  (repeat'((conv=>whnf);first|refine NBr.yes ?_|refine NBr.no ?_|refine NCall.eq hS Az ?_));(all_goals(conv=>whnf))
  all_goals exact NEnd.eq leQ
 |[q]=>
  have hq:=hm q (by simp)
  have g0:([q]:List (List UInt8))[0]?=some q:=rfl
  have hN:=jF q 1 (by omega)
  have hil:=Jr q 1
  have hD:=Qc (inn q 1) (by omega)
  show Ab _ _ _ (fun r=>r=gbA (Kh k q 0 []))
  unfold Kh
  cases hin:Bq q 1 with
  |none=>
   rw[hin] at hN
   rw[M8 hin] at hD⊢
   have hN:Ab Tryz.prog 118 [.d (Ac false q),iv 1] (fun r=>r= .tup [Be,bv false]):=hN
   generalize pK []=K at hD⊢
   generalize pV []=V at hD⊢
   generalize D1 []=O at hD⊢
   refine acQ 69 Tryz.func77 rfl rfl fun _ _ _=> ?_
   (repeat'((conv=>whnf);first|refine NBr.no ?_|refine NCall.eq hS Az ?_|refine NIdx.tab (fun _=>rfl) g0 ?_|refine NCall.eq hN Az ?_|refine NCall.le hD Nq ?_));(all_goals(conv=>whnf))
   all_goals exact NEnd.eq leQ
  |some v=>
   rw[hin] at hN
   rw[F2 hin] at hD⊢
   have hN:Ab Tryz.prog 118 [.d (Ac false q),iv 1] (fun r=>r= .tup [.d (Ac false v),bv true]):=hN
   generalize pK v=K at hD⊢
   generalize pV v=V at hD⊢
   generalize D1 v=O at hD⊢
   refine acQ 69 Tryz.func77 rfl rfl fun _ _ _=> ?_
   (repeat'((conv=>whnf);first|refine NBr.yes ?_|refine NBr.no ?_|refine NCall.eq hS Az ?_|refine NIdx.tab (fun _=>rfl) g0 ?_|refine NCall.eq hN Az ?_|refine NCall.eq hD Az ?_));(all_goals(conv=>whnf))
   all_goals exact NEnd.eq leQ
 |[p,q]=>
  have hp:=hm p (by simp)
  have hq:=hm q (by simp)
  have g0:([p,q]:List (List UInt8))[0]?=some p:=rfl
  have g1:([q]:List (List UInt8))[0]?=some q:=rfl
  have hN0:=jF p 0 (by omega)
  have hil0:=Jr p 0
  have hD0:=Qc (inn p 0) (by omega)
  have hN:=jF q 1 (by omega)
  have hil:=Jr q 1
  have hD:=Qc (inn q 1) (by omega)
  show Ab _ _ _ (fun r=>r=gbA (if(Bq p 0).isSome&&D1 (inn p 0) then Kh k q (pK (inn p 0)) (pV (inn p 0)) else(gz,false)))
  cases hin0:Bq p 0 with
  |none=>
   rw[hin0] at hN0
   rw[M8 hin0] at hD0
   have hN0:Ab Tryz.prog 118 [.d (Ac false p),iv 0] (fun r=>r= .tup [Be,bv false]):=hN0
   rw[if_neg (by simp)]
   generalize pK []=K at hD0
   generalize pV []=V at hD0
   generalize D1 []=O at hD0
   refine acQ 69 Tryz.func77 rfl rfl fun _ _ _=> ?_
   (repeat'((conv=>whnf);first|refine NBr.yes ?_|refine NCall.eq hS Az ?_|refine NIdx.tab (fun _=>rfl) g0 ?_|refine NCall.eq hN0 Az ?_|refine NCall.le hD0 Nq ?_));(all_goals(conv=>whnf))
   all_goals exact NEnd.eq leQ
  |some v=>
   rw[hin0] at hN0
   rw[F2 hin0] at hD0⊢
   have hN0:Ab Tryz.prog 118 [.d (Ac false p),iv 0] (fun r=>r= .tup [.d (Ac false v),bv true]):=hN0
   cases hd0:D1 v
   ·rw[hd0] at hD0
    rw[if_neg (by simp)]
    refine acQ 69 Tryz.func77 rfl rfl fun _ _ _=> ?_
    (repeat'((conv=>whnf);first|refine NBr.yes ?_|refine NBr.no ?_|refine NCall.eq hS Az ?_|refine NIdx.tab (fun _=>rfl) g0 ?_|refine NCall.eq hN0 Az ?_|refine NCall.eq hD0 Az ?_));(all_goals(conv=>whnf))
    all_goals exact NEnd.eq leQ
   rw[hd0] at hD0
   rw[if_pos (by rfl)]
   generalize pK v=K0 at hD0⊢
   generalize pV v=V0 at hD0⊢
   unfold Kh
   cases hin:Bq q 1 with
   |none=>
    rw[hin] at hN
    rw[M8 hin] at hD⊢
    have hN:Ab Tryz.prog 118 [.d (Ac false q),iv 1] (fun r=>r= .tup [Be,bv false]):=hN
    generalize pK []=K at hD⊢
    generalize pV []=V at hD⊢
    generalize D1 []=O at hD⊢
    refine acQ 69 Tryz.func77 rfl rfl fun _ _ _=> ?_
    (repeat'((conv=>whnf);first|refine NBr.yes ?_|refine NBr.no ?_|refine NCall.eq hS Az ?_|refine NIdx.tab (fun _=>rfl) g0 ?_|refine NCall.eq hN0 Az ?_|refine NCall.eq hD0 Az ?_|refine NSl.tab (fun _=>rfl) 1 2 [q] rfl ?_|refine NIdx.tab (fun _=>rfl) g1 ?_|refine NCall.eq hN Az ?_|refine NCall.le hD Nq ?_|refine NFact.go ⟨by decide+kernel,by kernel_rfl⟩ ?_));(all_goals(conv=>whnf))
    all_goals exact NEnd.eq leQ
   |some v=>
    rw[hin] at hN
    rw[F2 hin] at hD⊢
    have hN:Ab Tryz.prog 118 [.d (Ac false q),iv 1] (fun r=>r= .tup [.d (Ac false v),bv true]):=hN
    generalize pK v=K at hD⊢
    generalize pV v=V at hD⊢
    generalize D1 v=O at hD⊢
    refine acQ 69 Tryz.func77 rfl rfl fun _ _ _=> ?_
    (repeat'((conv=>whnf);first|refine NBr.yes ?_|refine NBr.no ?_|refine NCall.eq hS Az ?_|refine NIdx.tab (fun _=>rfl) g0 ?_|refine NCall.eq hN0 Az ?_|refine NCall.eq hD0 Az ?_|refine NSl.tab (fun _=>rfl) 1 2 [q] rfl ?_|refine NIdx.tab (fun _=>rfl) g1 ?_|refine NCall.eq hN Az ?_|refine NCall.eq hD Az ?_|refine NFact.go ⟨by decide+kernel,by kernel_rfl⟩ ?_));(all_goals(conv=>whnf))
    all_goals exact NEnd.eq leQ
theorem Ou (b:List UInt8) (hb:b.length≤1000000000):Ab Tryz.prog 64 [.d (Ac false b)] (fun r=>r=bv (D7 b)):=by
 rw[Lh]
 rcases M4 b hb with⟨h1,ta,tq,tm,tk,tl,tcs,hT⟩|⟨h1,hT⟩
 ·rw[h1]
  refine acQ 13 Tryz.func64 rfl rfl fun _ _ _=> ?_
  (repeat'((conv=>whnf);refine NCall.eq hT Az ?_));(all_goals(conv=>whnf))
  all_goals exact NEnd.eq leQ
 ·generalize Hf b=tO at hT
  generalize Fz b=tc at hT h1⊢
  have g1:((tc:Int)==0)=(tc==0):=Fr tc 0
  refine acQ 13 Tryz.func64 rfl rfl fun _ _ _=> ?_
  (repeat'((conv=>whnf);refine NCall.eq hT Az ?_));(all_goals(conv=>whnf))
  all_goals(refine NEnd.eq ?_;(repeat'(first|refine And.intro ?_ ?_|exact rfl));(all_goals(conv=>whnf)))
  all_goals exact g1
theorem E6 (n:Nat) (b:List UInt8) (hn:n≤30) (hb:b.length≤900000000):Ab Tryz.prog 65 [iv n,.d (Ac false b)] (fun r=>r= .tup [Cd 0 5 (Aj 2 n true b),iv 0]):=by
 have hW:=Fy 2 n true b (by omega) hn hb
 refine acQ 12 Tryz.func65 rfl rfl fun _ _ _=> ?_
 (repeat'((conv=>whnf);refine NCall.eq hW Az ?_));(all_goals(conv=>whnf))
 all_goals exact NEnd.eq leQ
theorem W7 (k:Int):(k=0∨k=1∨k=2∨k=3∨k=4∨k=5∨k=6∨k=7∨k=8)∨((k==0)=false∧(k==1)=false∧(k==2)=false∧(k==3)=false∧(k==4)=false∧(k==5)=false∧(k==6)=false∧(k==7)=false∧(k==8)=false):=by
 simp only[beq_eq_false_iff_ne];omega
def Cc (k:Int):Bool:=k==0||(k==3||(k==4||k==5))
theorem Sq (k:Int):Ab Tryz.prog 39 [iv k] (fun r=>r=bv (Cc k)):=by
 rcases W7 k with(h|h|h|h|h|h|h|h|h)|⟨h0,h1,h2,h3,h4,h5,h6,h7,h8⟩
 case inr=>
  rw[show Cc k=false by unfold Cc;rw[h0,h3,h4,h5];rfl]
  refine acQ 9 Tryz.func39 rfl rfl fun _ _ _=> ?_
  (repeat'((conv=>whnf);refine NBr.neg asP ?_));(all_goals(conv=>whnf))
  all_goals exact NEnd.eq leQ
 all_goals
  subst h
  refine acQ 9 Tryz.func39 rfl rfl fun _ _ _=> ?_
  (repeat'((conv=>whnf);first|refine NBr.yes ?_|refine NBr.no ?_));(all_goals(conv=>whnf))
  all_goals exact NEnd.eq leQ
def ip (n:Nat):Bool:=n==4||(n==8||(n==16||n==32))
def M9 (g:Gn):Bool:=if g.k=0 then D7 g.by' else if g.k=3 then D7 (Aj 2 3 true g.by') else if g.k=7 then ip g.by'.length else true
theorem Ov (g:Gn) (hb:g.by'.length≤100000000):Ab Tryz.prog 36 [gnA g] (fun r=>r=bv (M9 g)):=by
 obtain⟨k,oid,tx,by',nm,ak,av,pk,pv⟩:=g
 simp only at hb
 have hO:=Ou by' (by omega)
 have hX:=E6 3 by' (by omega) (by omega)
 have hle:=B6 2 3 true by' (by omega)
 have hO3:=Ou (Aj 2 3 true by') (by omega)
 unfold M9
 simp only
 rcases W7 k with(h|h|h|h|h|h|h|h|h)|⟨h0,h1,h2,h3,h4,h5,h6,h7,h8⟩
 case inr=>
  rw[if_neg (by simpa using h0),if_neg (by simpa using h3),if_neg (by simpa using h7)]
  refine acQ 48 Tryz.func36 rfl rfl fun _ _ _=> ?_
  (repeat'((conv=>whnf);refine NBr.neg asP ?_));(all_goals(conv=>whnf))
  all_goals exact NEnd.eq leQ
 case inl.inr.inr.inr.inr.inr.inr.inr.inl=>
  subst h
  rw[if_neg (by decide),if_neg (by decide),if_pos rfl]
  unfold ip
  have b1:=Fr by'.length 4
  have b2:=Fr by'.length 8
  have b3:=Fr by'.length 16
  have b4:=Fr by'.length 32
  generalize (by'.length==4)=c1 at b1⊢
  generalize (by'.length==8)=c2 at b2⊢
  generalize (by'.length==16)=c3 at b3⊢
  generalize (by'.length==32)=c4 at b4⊢
  cases c1<;>cases c2<;>cases c3<;>cases c4
  all_goals
   refine acQ 48 Tryz.func36 rfl rfl fun _ _ _=> ?_
   (repeat'((conv=>whnf);first|refine NBr.yes ?_|refine NBr.no ?_|refine NBr.pos asP ?_|refine NBr.neg asP ?_));(all_goals(conv=>whnf))
   all_goals(refine NEnd.eq ?_;(repeat'(first|exact Db _|refine And.intro ?_ ?_|exact rfl));(all_goals(conv=>whnf)))
   all_goals exact b4
 case inl.inl=>
  subst h
  rw[if_pos rfl]
  refine acQ 48 Tryz.func36 rfl rfl fun _ _ _=> ?_
  (repeat'((conv=>whnf);first|refine NBr.yes ?_|refine NCall.eq hO Az ?_));(all_goals(conv=>whnf))
  all_goals exact NEnd.eq leQ
 case inl.inr.inr.inr.inl=>
  subst h
  rw[if_neg (by decide),if_pos rfl]
  refine acQ 48 Tryz.func36 rfl rfl fun _ _ _=> ?_
  (repeat'((conv=>whnf);first|refine NBr.yes ?_|refine NBr.no ?_|refine NCall.eq hX Az ?_|refine NCall.eq hO3 Az ?_));(all_goals(conv=>whnf))
  all_goals exact NEnd.eq leQ
 all_goals
  subst h
  rw[if_neg (by decide),if_neg (by decide),if_neg (by decide)]
  refine acQ 48 Tryz.func36 rfl rfl fun _ _ _=> ?_
  (repeat'((conv=>whnf);refine NBr.no ?_));(all_goals(conv=>whnf))
  all_goals exact NEnd.eq leQ
def zT (k:Int) (l:List UInt8):Bool:=k==0&&l==[]
def alB (a b c d e:Bool) (g:Gn):Bool:=(a||g.oid==[])&&((b||g.tx==[])&&((c||(g.by'.length:Int)==0)&&((d||(g.nm.length:Int)==0)&&(e||(zT g.ak g.av&&zT g.pk g.pv)))))
def Gj (g:Gn):Bool:=alB (g.k==0||g.k==8) (g.k==1||(g.k==2||g.k==6)) (g.k==0||(g.k==3||g.k==7)) (g.k==4) (g.k==5) g
theorem Zv (g:Gn):Ab Tryz.prog 35 [gnA g] (fun r=>r=bv (Gj g)):=by
 obtain⟨k,oid,tx,by',nm,ak,av,pk,pv⟩:=g
 unfold Gj alB zT
 simp only
 rcases W7 k with(h|h|h|h|h|h|h|h|h)|⟨h0,h1,h2,h3,h4,h5,h6,h7,h8⟩
 case inr=>
  rw[h0,h1,h2,h3,h4,h5,h6,h7,h8]
  refine acQ 86 Tryz.func35 rfl rfl fun _ _ _=> ?_
  (repeat'((conv=>whnf);first|refine NBr.yes ?_|refine NBr.no ?_|refine NBr.neg asP ?_|refine NStep.go (Ft rfl rfl (ltN rfl) rfl rfl) ?_|(refine NBr.dec (fun hc hcP=> ?_) (fun hc hcP=> ?_)<;>try(exfalso;omega))|refine NBr.mk (fun hc=> ?_) (fun hc=> ?_)));(all_goals(conv=>whnf))
  all_goals(refine NEnd.eq ?_;(repeat'(first|refine And.intro ?_ ?_|exact rfl));(all_goals(conv=>whnf)))
  all_goals(simp_all)
 all_goals
  subst h
  refine acQ 86 Tryz.func35 rfl rfl fun _ _ _=> ?_
  (repeat'((conv=>whnf);first|refine NBr.yes ?_|refine NBr.no ?_|refine NStep.go (Ft rfl rfl (ltN rfl) rfl rfl) ?_|(refine NBr.dec (fun hc hcP=> ?_) (fun hc hcP=> ?_)<;>try(exfalso;omega))|refine NBr.mk (fun hc=> ?_) (fun hc=> ?_)));(all_goals(conv=>whnf))
  all_goals(refine NEnd.eq ?_;(repeat'(first|refine And.intro ?_ ?_|exact rfl));(all_goals(conv=>whnf)))
  all_goals(simp_all)
def nP (a b:List UInt8):Nat→List UInt8
 |0=>[]
 |1=>a
 |_+2=>a++b
def Zw (g:Gn):Option (List UInt8):=
 if(zT g.ak g.av||Af g.ak g.av)&&Af g.pk g.pv then some ((if zT g.ak g.av then [] else Aj 2 0 true (txE g.ak g.av))++Aj 2 1 true (txE g.pk g.pv)) else none
def Gk (g:Gn):Option (List UInt8):=
 if g.k=0 then(if Ff g.oid then some (Aj 0 6 false (Bj g.oid)++Aj 2 0 true g.by') else none)
 else if g.k=1∨g.k=2∨g.k=6 then(if Af 22 g.tx then some (chS 22 g.tx) else none)
 else if g.k=3∨g.k=7 then some g.by'
 else if g.k=4 then(if nmV g.nm then some (nmE g.nm) else none)
 else if g.k=5 then Zw g
 else if g.k=8 then(if Ff g.oid then some (Bj g.oid) else none)
 else none
def oB:Option (List UInt8)→AV
 |some c=> .tup [.d (Ac false c),iv 0]
 |none=> .tup [.d (Ac false []),iv 8]
structure Gn.sm (g:Gn):Prop where
 o:g.oid.length≤3000000
 t:g.tx.length≤3000000
 b:g.by'.length≤3000000
 n:nmZ g.nm
 a:g.av.length≤3000000
 p:g.pv.length≤3000000
theorem H5 {k:Int} {l:List UInt8} (h:Af k l=true) (hl:l.length≤3000000):(txE k l).length≤4*l.length+6:=by
 have h4:=Ke h
 have:=B6 0 k.toNat false (chS k l) (by omega)
 unfold txE;omega
theorem kE {k:Int} {l:List UInt8} (hl:l.length≤3000000) (h:Af k l=true):Ab Tryz.prog 70 [txA k l] (fun r=>r= .tup [Cd 0 5 (txE k l),iv 0]):=by
 have:=Hg k l (by omega)
 rwa[frS,if_pos h] at this
theorem kF {k:Int} {l:List UInt8} (hl:l.length≤3000000) (h:Af k l=false):Ab Tryz.prog 70 [txA k l] (fun r=>r= .tup [Be,iv 8]):=by
 have:=Hg k l (by omega)
 rwa[frS,if_neg (by rw[h];simp)] at this
theorem Li {s:List UInt8} (h:Ff s=false):Y9 s=8∧Bj s=[]:=by
 unfold Ff at h;unfold Y9 Bj
 cases ha:De s with
 |none=>exact⟨rfl,rfl⟩
 |some a=>rw[ha] at h;cases h
theorem Gl {p:Prop} (h:p:=by first|rfl|(simp only[AV.gives,AV.ren,AV.give,D.un,D.uns,Ai,An,List.nil_append,List.append_nil,List.cons_append,A3,Dt,Hw,Dd,Ci,Ge,Fe,Gi,D2];first|done|rfl)):p:=h
theorem Qd (g:Gn) (hs:g.sm):Ab Tryz.prog 37 [gnA g] (fun r=>r=oB (Gk g)):=by
 obtain⟨k,oid,tx,by',nm,ak,av,pk,pv⟩:=g
 obtain⟨s1,s2,s3,s4,s5,s6⟩:=hs
 simp only at s1 s2 s3 s4 s5 s6
 have k1:=Fx oid
 have hE:=Mt oid (by omega)
 have hW:=Fy 0 6 false (Bj oid) (by omega) (by omega) (by omega)
 have hX:=E6 0 by' (by omega) (by omega)
 have hle:=B6 2 0 true by' (by omega)
 have hlo:=B6 0 6 false (Bj oid) (by omega)
 have hCo:=Im [Aj 0 6 false (Bj oid),Aj 2 0 true by'] (by simp;omega) (by simp)
 rw[show [Aj 0 6 false (Bj oid),Aj 2 0 true by'].flatten=Aj 0 6 false (Bj oid)++Aj 2 0 true by' by simp] at hCo
 have hT:Ab Tryz.prog 68 [.agg [iv 22,.d (.v (.string ⟨⟨tx⟩⟩))]] (fun r=>r= .tup [.d (Ac true (Gx 22 tx)),iv (O0 22 tx)]):=Jf 22 tx (by omega)
 have hN:=Zs nm s4
 unfold Gk
 simp only
 rcases W7 k with(h|h|h|h|h|h|h|h|h)|⟨h0,h1,h2,h3,h4,h5,h6,h7,h8⟩
 case inr=>
  have e:¬k=0∧¬(k=1∨k=2∨k=6)∧¬(k=3∨k=7)∧¬k=4∧¬k=5∧¬k=8:=by
   simp only[beq_eq_false_iff_ne] at h0 h1 h2 h3 h4 h5 h6 h7 h8;omega
  rw[if_neg e.1,if_neg e.2.1,if_neg e.2.2.1,if_neg e.2.2.2.1,if_neg e.2.2.2.2.1,if_neg e.2.2.2.2.2]
  show Ab _ _ _ (fun r=>r= .tup [.d (Ac false []),iv 8])
  refine acQ 118 Tryz.func37 rfl rfl fun _ _ _=> ?_
  (repeat'((conv=>whnf);refine NBr.neg asP ?_));(all_goals(conv=>whnf))
  all_goals exact NEnd.eq leQ
 case inl.inl=>
  subst h
  rw[if_pos rfl]
  cases ho:Ff oid
  ·rw[(Li ho).1,(Li ho).2] at hE
   show Ab _ _ _ (fun r=>r= .tup [.d (Ac false []),iv 8])
   refine acQ 118 Tryz.func37 rfl rfl fun _ _ _=> ?_
   (repeat'((conv=>whnf);first|refine NBr.yes ?_|refine NCall.eq hE rfl ?_));(all_goals(conv=>whnf))
   all_goals exact NEnd.eq leQ
  ·rw[(J7 oid).1 ho] at hE
   show Ab _ _ _ (fun r=>r= .tup [.d (Ac false (Aj 0 6 false (Bj oid)++Aj 2 0 true by')),iv 0])
   refine acQ 118 Tryz.func37 rfl rfl fun _ _ _=> ?_
   (repeat'((conv=>whnf);first|refine NBr.yes ?_|refine NBr.no ?_|refine NCall.eq hE rfl ?_|refine NCall.eq hW Gl ?_|refine NCall.eq hX Gl ?_|refine NCall.eq hCo Gl ?_));(all_goals(conv=>whnf))
   all_goals exact NEnd.eq leQ
 case inl.inr.inr.inr.inr.inl=>
  subst h
  rw[if_neg (by decide),if_neg (by decide),if_neg (by decide),if_pos rfl]
  cases ho:nmV nm
  ·rw[if_neg (by rw[ho];simp)] at hN
   show Ab _ _ _ (fun r=>r= .tup [.d (Ac false []),iv 8])
   refine acQ 118 Tryz.func37 rfl rfl fun _ _ _=> ?_
   (repeat'((conv=>whnf);first|refine NBr.yes ?_|refine NBr.no ?_|refine NCall.eq hN Gl ?_));(all_goals(conv=>whnf))
   all_goals exact NEnd.eq leQ
  ·rw[if_pos ho] at hN
   show Ab _ _ _ (fun r=>r= .tup [.d (Ac false (nmE nm)),iv 0])
   refine acQ 118 Tryz.func37 rfl rfl fun _ _ _=> ?_
   (repeat'((conv=>whnf);first|refine NBr.yes ?_|refine NBr.no ?_|refine NCall.eq hN Gl ?_));(all_goals(conv=>whnf))
   all_goals exact NEnd.eq leQ
 case inl.inr.inr.inr.inr.inr.inl=>
  subst h
  rw[if_neg (by decide),if_neg (by decide),if_neg (by decide),if_neg (by decide),if_pos rfl]
  unfold Zw
  simp only
  generalize hz:zT ak av=z
  have gz':(ak==0&&av==[])=z:=hz
  generalize hpre:(if z=true then [] else Aj 2 0 true (txE ak av))=pre
  have hprel:(z||Af ak av)=true→pre.length≤13000000:=fun h=>by
   cases z
   ·rw[Bool.false_or] at h
    have h1:=H5 h s5
    have h2:=B6 2 0 true (txE ak av) (by omega)
    rw[←hpre,if_neg (by simp)];omega
   ·rw[←hpre,if_pos rfl];simp
  refine acQ 118 Tryz.func37 rfl rfl fun _ _ _=> ?_
  (repeat'((conv=>whnf);first|refine NBr.yes ?_|refine NBr.no ?_));(all_goals(conv=>whnf))
  refine NLoop.goA [.s 8 1 5] (fun i:Nat=>i≤2∧(1≤i→(z||Af ak av)=true)∧(2≤i→Af pk pv=true)) (fun i=>2-i) (fun i=>⟨[(1,.ptr 1 0),(8,Cd 8 5 (nP pre (Aj 2 1 true (txE pk pv)) i)),(15,iv 5),(75,.d (.sl false 2 2 [iD ak,sD av,iD pk,sD pv])),(76,iv 2),(77,iv i)],[(1,[iv 5,.d (sD oid),.d (sD tx),.d (Ac false by'),.d (G7 nm),iv ak,.d (sD av),iv pk,.d (sD pv)])],[(8,((nP pre (Aj 2 1 true (txE pk pv)) i).length,1,5))]⟩) 0 ⟨by omega,by omega,by omega⟩ leQ ?_
  rintro i ⟨hi,hA,hP⟩
  match i,hi with
  |0,_=>
   cases z
   ·cases ha:Af ak av
    ·have hF:=kF s5 ha
     rw[show((false||false)&&Af pk pv)=false by rfl,if_neg (by simp)]
     (repeat'((conv=>whnf);first|refine NBr.yes ?_|refine NBr.neg asP ?_|refine NIdx.at 0 ?_|refine NStep.go (Ft rfl rfl (ltN rfl) rfl rfl) ?_|refine NCall.eq hF rfl ?_));(all_goals(conv=>whnf))
     all_goals exact NEnd.eq leQ
    ·have hF:=kE s5 ha
     have h1:=H5 ha s5
     have hX:=E6 0 (txE ak av) (by omega) (by omega)
     have h2:=B6 2 0 true (txE ak av) (by omega)
     rw[if_neg (by simp)] at hpre
     rw[←hpre]
     (repeat'((conv=>whnf);first|refine NBr.yes ?_|refine NBr.no ?_|refine NBr.neg asP ?_|refine NIdx.at 0 ?_|refine NStep.go (Ft rfl rfl (ltN rfl) rfl rfl) ?_|refine NCall.eq hF rfl ?_|refine NCall.eq hX Gl ?_|(refine NApp.bytes ?_ (by show([]:List UInt8).length+_≤_;simp only[List.length_nil];omega))|(with_reducible refine NInt.i64 ?_)));(all_goals(conv=>whnf))
     refine⟨1,⟨by omega,fun _=>rfl,by omega⟩,by omega,?_⟩
     exact leQ
   ·rw[if_pos rfl] at hpre
    rw[←hpre]
    (repeat'((conv=>whnf);first|refine NBr.yes ?_|refine NBr.pos asP ?_|refine NIdx.at 0 ?_|refine NStep.go (Ft rfl rfl (ltN rfl) rfl rfl) ?_|(with_reducible refine NInt.i64 ?_)));(all_goals(conv=>whnf))
    refine⟨1,⟨by omega,fun _=>rfl,by omega⟩,by omega,?_⟩
    exact leQ
  |1,_=>
   have hA:=hA (by omega)
   have hpl:=hprel hA
   cases hp:Af pk pv
   ·have hF:=kF s6 hp
    rw[Bool.and_false,if_neg (by simp)]
    (repeat'((conv=>whnf);first|refine NBr.yes ?_|refine NBr.no ?_|refine NIdx.at 1 ?_|refine NCall.eq hF rfl ?_));(all_goals(conv=>whnf))
    all_goals exact NEnd.eq leQ
   ·have hF:=kE s6 hp
    have h1:=H5 hp s6
    have hX:=E6 1 (txE pk pv) (by omega) (by omega)
    have h2:=B6 2 1 true (txE pk pv) (by omega)
    (repeat'((conv=>whnf);first|refine NBr.yes ?_|refine NBr.no ?_|refine NIdx.at 1 ?_|refine NCall.eq hF rfl ?_|refine NCall.eq hX Gl ?_|(refine NApp.bytes ?_ (by show pre.length+_≤_;omega))|(with_reducible refine NInt.i64 ?_)));(all_goals(conv=>whnf))
    refine⟨2,⟨by omega,fun _=>hA,fun _=>rfl⟩,by omega,?_⟩
    exact leQ
  |2,_=>
   rw[hA (by omega),hP (by omega)]
   (repeat'((conv=>whnf);refine NBr.no ?_));(all_goals(conv=>whnf))
   all_goals exact NEnd.eq leQ
 case inl.inr.inr.inr.inr.inr.inr.inr.inr=>
  subst h
  rw[if_neg (by decide),if_neg (by decide),if_neg (by decide),if_neg (by decide),if_neg (by decide),if_pos rfl]
  cases ho:Ff oid
  ·rw[(Li ho).1,(Li ho).2] at hE
   show Ab _ _ _ (fun r=>r= .tup [.d (Ac false []),iv 8])
   refine acQ 118 Tryz.func37 rfl rfl fun _ _ _=> ?_
   (repeat'((conv=>whnf);first|refine NBr.yes ?_|refine NBr.no ?_|refine NCall.eq hE rfl ?_));(all_goals(conv=>whnf))
   all_goals exact NEnd.eq leQ
  ·rw[(J7 oid).1 ho] at hE
   show Ab _ _ _ (fun r=>r= .tup [.d (Ac false (Bj oid)),iv 0])
   refine acQ 118 Tryz.func37 rfl rfl fun _ _ _=> ?_
   (repeat'((conv=>whnf);first|refine NBr.yes ?_|refine NBr.no ?_|refine NCall.eq hE rfl ?_));(all_goals(conv=>whnf))
   all_goals exact NEnd.eq leQ
 case inl.inr.inr.inr.inl=>
  subst h
  rw[if_neg (by decide),if_neg (by decide),if_pos (by decide)]
  show Ab _ _ _ (fun r=>r= .tup [.d (Ac false by'),iv 0])
  refine acQ 118 Tryz.func37 rfl rfl fun _ _ _=> ?_
  (repeat'((conv=>whnf);first|refine NBr.yes ?_|refine NBr.no ?_));(all_goals(conv=>whnf))
  all_goals exact NEnd.eq leQ
 case inl.inr.inr.inr.inr.inr.inr.inr.inl=>
  subst h
  rw[if_neg (by decide),if_neg (by decide),if_pos (by decide)]
  show Ab _ _ _ (fun r=>r= .tup [.d (Ac false by'),iv 0])
  refine acQ 118 Tryz.func37 rfl rfl fun _ _ _=> ?_
  (repeat'((conv=>whnf);first|refine NBr.yes ?_|refine NBr.no ?_));(all_goals(conv=>whnf))
  all_goals exact NEnd.eq leQ
 all_goals
  subst h
  rw[if_neg (by decide),if_pos (by decide)]
  unfold Gx O0 at hT
  cases hv:Af 22 tx
  ·rw[hv] at hT
   show Ab _ _ _ (fun r=>r= .tup [.d (Ac false []),iv 8])
   refine acQ 118 Tryz.func37 rfl rfl fun _ _ _=> ?_
   (repeat'((conv=>whnf);first|refine NBr.yes ?_|refine NBr.no ?_|refine NCall.eq hT rfl ?_));(all_goals(conv=>whnf))
   all_goals exact NEnd.eq leQ
  ·rw[hv] at hT
   show Ab _ _ _ (fun r=>r= .tup [.d (Ac false (chS 22 tx)),iv 0])
   refine acQ 118 Tryz.func37 rfl rfl fun _ _ _=> ?_
   (repeat'((conv=>whnf);first|refine NBr.yes ?_|refine NBr.no ?_|refine NCall.eq hT rfl ?_));(all_goals(conv=>whnf))
   all_goals exact NEnd.eq leQ
end Go.Proofs.YtngbfblmejjipaaGreatDoor
