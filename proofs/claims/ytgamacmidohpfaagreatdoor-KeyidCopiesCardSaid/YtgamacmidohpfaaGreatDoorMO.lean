/- MO: the texts Att Att2 Dn Dn2 GenP GenQ GenC, one behind the other. No condition but what each lemma says. -/
import Derived.Test.YtgamacmidohpfaaGreatDoorMM
set_option maxRecDepth 100000
set_option maxHeartbeats 16000000
namespace Go.Proofs.YtgamacmidohpfaaGreatDoor
open Go.RowKit
def J8 (b:List UInt8):Nat:=(Ek b).code
def L7 (b:List UInt8):Nat:=(Ek b).off
theorem bK (b:List UInt8):L7 b≤b.length:=by
 have hF:=F7 b 16 b.length (by omega) 0 (by omega)
 dsimp only at hF
 unfold L7 Ek
 generalize Bs b 16 0 b.length=r at hF
 by_cases h:r.code=0
 ·obtain⟨s,rfl,h1,h2⟩:=hF.1 h
  by_cases h3:s.stop<b.length
  ·rw[He h3];exact h2
  ·rw[J4 h3];exact Nat.zero_le _
 ·obtain⟨h1,h2⟩:=hF.2 h
  obtain⟨l,c,o⟩:=r
  have hl:l=[]:=h2
  subst hl
  rw[Ij];exact h1
theorem Ud (b:List UInt8) (hb:b.length≤1000000000):(J8 b=0∧∃(a q m:Nat) (k:Bool) (l:List UInt8) (cs:List D),Ab Tryz.prog 124 [.d (Ag false b)] (fun r=>r= .tup [.agg [iv a,iv q,bv k,.d (Ag true l),.d (.sl true m 5 cs)],erA 0 0]))∨
 (J8 b≠0∧Ab Tryz.prog 124 [.d (Ag false b)] (fun r=>r= .tup [.agg [iv 0,iv 0,bv false,Bc,Bc],erA (J8 b) (L7 b)])):=by
 have hP:=nG b hb
 unfold J8 L7
 rcases nJ b with⟨s,h⟩|⟨c,o,hc0,h⟩
 ·rw[h] at hP⊢
  obtain⟨a,q,c,n,k,b',ks⟩:=s
  exact .inl ⟨rfl,c,n,ks.length,k,b',Jf true ks,hP⟩
 ·rw[h] at hP⊢
  refine .inr ⟨hc0,?_⟩
  cases c with
  |zero=>exact absurd rfl hc0
  |succ c=>exact hP
def Ue (b:List UInt8):List UInt8:=(b.drop (Bh b).x.body).take ((Bh b).x.stop-(Bh b).x.body)
def Ra (b:List UInt8):Bool:=(Bh b).code==0&&((Bh b).x.c==0&& !(Bh b).x.k)
def M8 (b:List UInt8):Int:=if Ra b then E2 (Bh b).x.n (Ue b) else 0
def Qi (b:List UInt8):List UInt8:=if Ra b then Cm (Bh b).x.n (Ue b) else []
def Yj (b:List UInt8):Bool:=Ra b&&Dl (Bh b).x.n (Ue b)==0
theorem tI (b:List UInt8):(Ue b).length≤b.length:=by
 unfold Ue;rw[Am,Az];omega
theorem Kr {p:Prop} (h:p:=by first|rfl|(simp only[AV.gives,AV.ren,AV.give,D.un,D.uns,Al,Ak,List.nil_append,List.append_nil,List.cons_append,As,Ep,Er,A5,A2,Bi];first|done|rfl)):p:=h
theorem Yk (b:List UInt8) (hb:b.length≤1000000):Ab Tryz.prog 167 [.d (Ag false b)] (fun r=>r= .tup [txA (M8 b) (Qi b),bv (Yj b)]):=by
 have hO:=Kn b (by omega)
 have hF:=D7 b
 have hD:=Kq (Bh b).x.n (Ue b) (by have:=tI b;omega)
 unfold M8 Qi Yj
 have gs:Ra b=((Bh b).code==0&&((Bh b).x.c==0&& !(Bh b).x.k)):=rfl
 unfold Ue at hD⊢
 generalize Ra b=q at gs⊢
 generalize Bh b=r at hO hF hD gs⊢
 obtain⟨⟨c,n,k,p,body,stop⟩,cd,of⟩:=r
 simp only at hF hD gs⊢
 by_cases h1:cd=0
 case neg=>
  have g1:((cd:Int) !=0)=true:=by rw[bne_iff_ne];omega
  have gq:q=false:=by rw[gs,show(cd==0)=false by rw[beq_eq_false_iff_ne];exact h1];rfl
  subst gq
  refine acQ 41 Tryz.func167 rfl rfl fun _ _ _=> ?_
  (repeat'((conv=>whnf);first|refine Ac ?_|refine Av asP ?_|refine Aa hO Kr ?_|exact zE))
 subst h1
 by_cases h2:c=0
 case neg=>
  have g1:((c:Int) !=0)=true:=by rw[bne_iff_ne];omega
  have gq:q=false:=by rw[gs,show(c==0)=false by rw[beq_eq_false_iff_ne];exact h2];rfl
  subst gq
  refine acQ 41 Tryz.func167 rfl rfl fun _ _ _=> ?_
  (repeat'((conv=>whnf);first|refine Ac ?_|refine Af ?_|refine Av asP ?_|refine Aa hO Kr ?_|exact zE))
 subst h2
 cases k
 ·have gq:q=true:=gs
  subst gq
  generalize E2 n ((b.drop body).take (stop-body))=K at hD⊢
  generalize Cm n ((b.drop body).take (stop-body))=V at hD⊢
  generalize Dl n ((b.drop body).take (stop-body))=Z at hD⊢
  refine acQ 41 Tryz.func167 rfl rfl fun _ _ _=> ?_
  (repeat'((conv=>whnf);first|refine Af ?_|refine Aa hO Kr ?_|refine NSl.slice (body) (stop) ?_|refine Aa hD Kr ?_|refine zF ?_|exact zE))
 ·have gq:q=false:=gs
  subst gq
  refine acQ 41 Tryz.func167 rfl rfl fun _ _ _=> ?_
  (repeat'((conv=>whnf);first|refine Ac ?_|refine Af ?_|refine Aa hO Kr ?_|exact zE))
def txE (k:Int) (l:List UInt8):List UInt8:=Ai 0 k.toNat false (chS k l)
def frS (k:Int) (l:List UInt8):AV:=if Ao k l=true then .tup [Be 0 5 (txE k l),iv 0] else .tup [Bc,iv 8]
theorem Pg {k:Int} {l:List UInt8} (h:Ao k l=true):∃n:Nat,12≤n∧n≤30∧k=n:=by
 have hk:¬Aq k<0:=fun hw=>by rw[Lb hw] at h;cases h
 rcases De k hk with h|h|h|h|h|h|h<;>exact⟨k.toNat,by omega,by omega,by omega⟩
theorem F9 {k:Int} {l:List UInt8} (h:Ao k l=true):(chS k l).length≤4*l.length:=by
 have hv:Go.Lib.validD l=true:=by unfold Ao at h;simp at h;exact h.1.1
 rw[←Jj h]
 have hl:(rns l).length≤l.length:=by
  have:=congrArg List.length (H3 l hv)
  have h1:∀q:List Nat,q.length≤(q.flatMap enc).length:=by
   intro q
   induction q with
   |nil=>simp
   |cons a r ih=>rw[List.flatMap_cons,Ap,Ah];have:=(Fw a).1;omega
  have:=h1 (rns l)
  omega
 have hw:Aq k≤4:=by unfold Aq;(repeat' split)<;>omega
 have h2:∀q:List Nat,(q.flatMap (Ip (Aq k))).length≤4*q.length:=by
  intro q
  induction q with
  |nil=>simp
  |cons a r ih=>rw[List.flatMap_cons,Ap,Ah];have:=Lc (Aq k) a hw;omega
 have:=h2 (rns l)
 omega
theorem L8 (k:Int) (l:List UInt8) (hl:l.length≤16777216):Ab Tryz.prog 96 [txA k l] (fun r=>r=frS k l):=by
 have hE:=Kp k l (by omega)
 unfold frS
 unfold Eb Hi at hE
 by_cases hv:Ao k l=true
 ·rw[if_pos hv]
  rw[if_pos hv,if_pos hv] at hE
  obtain⟨n,n1,n2,rfl⟩:=Pg hv
  have h4:=F9 hv
  have hW:=Fl 0 n false (chS (n:Int) l) (by omega) n2 (by omega)
  have e:txE (n:Int) l=Ai 0 n false (chS (n:Int) l):=by unfold txE;rw[Int.toNat_natCast]
  rw[e]
  refine acQ 20 Tryz.func96 rfl rfl fun _ _ _=> ?_
  (repeat'((conv=>whnf);first|refine Af ?_|refine Aa hE rfl ?_|refine Aa hW Kr ?_|exact zE))
 ·rw[if_neg hv]
  rw[if_neg hv,if_neg hv] at hE
  refine acQ 20 Tryz.func96 rfl rfl fun _ _ _=> ?_
  (repeat'((conv=>whnf);first|refine Ac ?_|refine Aa hE rfl ?_|exact zE))
theorem tJ (k:Int):Ab Tryz.prog 168 [iv k] (fun r=>r=bv (k==22||k==26)):=by
 refine acQ 9 Tryz.func168 rfl rfl fun _ _ _=> ?_
 (repeat'((conv=>whnf);first|refine Ac ?_|refine Af ?_|(refine Aj (fun hc hcP=> ?_) (fun hc hcP=> ?_)<;>try(exfalso;omega))));(all_goals(conv=>whnf))
 all_goals(refine A6 ?_;(repeat'(first|refine And.intro ?_ ?_|exact rfl));(all_goals(conv=>whnf)))
 all_goals(simp_all)
def F1 (b:List UInt8):Bool:=Yj b&&(!(Qi b==[])&& !(M8 b==22||M8 b==26))
def DB (b:List UInt8):AV:=if F1 b=true then .tup [txA (M8 b) (Qi b),bv true] else .tup [txA 0 [],bv false]
theorem Vd (b:List UInt8) (hb:b.length≤1000000):Ab Tryz.prog 138 [.d (Ag false b)] (fun r=>r=DB b):=by
 have hS:=Yk b hb
 have h1:=tJ (M8 b)
 unfold DB
 have gs:F1 b=(Yj b&&(!(Qi b==[])&& !(M8 b==22||M8 b==26))):=rfl
 generalize F1 b=q at gs⊢
 generalize M8 b=K at hS h1 gs⊢
 generalize Qi b=V at hS gs⊢
 generalize Yj b=Z at hS gs
 generalize (K==22||K==26)=O at h1 gs
 cases Z
 ·subst gs
  refine acQ 27 Tryz.func138 rfl rfl fun _ _ _=> ?_
  (repeat'((conv=>whnf);first|refine Ac ?_|refine Aa hS Kr ?_|exact zE))
 ·cases hv:(V==[])
  ·rw[hv] at gs
   cases O
   all_goals
    subst gs
    refine acQ 27 Tryz.func138 rfl rfl fun _ _ _=> ?_
    (repeat'((conv=>whnf);first|refine Ac ?_|refine Af ?_|refine Ax asP ?_|refine Aa hS Kr ?_|refine Aa h1 rfl ?_|exact zE))
  ·rw[hv] at gs
   subst gs
   refine acQ 27 Tryz.func138 rfl rfl fun _ _ _=> ?_
   (repeat'((conv=>whnf);first|refine Ac ?_|refine Af ?_|refine Av asP ?_|refine Aa hS Kr ?_|exact zE))
def atV (a:Att):Bool:=Es a.oid&&Ea a.val
theorem R3 (b:List UInt8):Ea b=(J8 b==0):=rfl
theorem Db {p:Prop} (h:p:=by first|rfl|(simp only[AV.gives,AV.ren,AV.give,D.un,D.uns,Al,Ak,List.nil_append,List.append_nil,List.cons_append,As,Ep,Er,A5,A2,Bi];first|done|rfl)):p:=h
theorem bL (a:Att) (ho:a.oid.length≤4000000) (hv:a.val.length≤1000000000):Ab Tryz.prog 183 [atA a] (fun r=>r=bv (atV a)):=by
 have hV:=X3 a.oid ho
 unfold atV
 rw[R3]
 generalize Es a.oid=V at hV⊢
 rcases Ud a.val hv with⟨h1,ta,tq,tm,tk,tl,tcs,hT⟩|⟨h1,hT⟩
 ·rw[h1]
  cases V
  all_goals
   refine acQ 19 Tryz.func183 rfl rfl fun _ _ _=> ?_
   (repeat'((conv=>whnf);first|refine Ac ?_|refine Af ?_|refine Aa hT Db ?_|refine Aa hV rfl ?_|exact zE))
 ·generalize L7 a.val=tO at hT
  generalize J8 a.val=tc at hT h1⊢
  have g1:((tc:Int)==0)=false:=by rw[beq_eq_false_iff_ne];omega
  have g2:(tc==0)=false:=by rw[beq_eq_false_iff_ne];exact h1
  cases V
  all_goals
   refine acQ 19 Tryz.func183 rfl rfl fun _ _ _=> ?_
   (repeat'((conv=>whnf);first|refine Ac ?_|refine Af ?_|refine Aa hT Db ?_|refine Aa hV rfl ?_));(all_goals(conv=>whnf))
   all_goals(refine A6 ?_;(repeat'(first|exact Ay _|refine And.intro ?_ ?_|exact rfl));(all_goals(conv=>whnf)))
  all_goals(rw[g1,g2];try rfl)
def atE (a:Att):List UInt8:=Ai 0 16 true (Ai 0 6 false (Bm a.oid)++a.val)
theorem R4 {a:Att} (h:atV a=true):Es a.oid=true∧Ea a.val=true:=by
 unfold atV at h;simpa using h
theorem Ve (a:Att) (ho:a.oid.length≤4000000) (hv:a.val.length≤100000000):Ab Tryz.prog 161 [atA a] (fun r=>r=if atV a=true then .tup [Be 0 5 (atE a),iv 0] else .tup [Bc,iv 8]):=by
 have hV:=bL a ho (by omega)
 by_cases h:atV a=true
 ·rw[if_pos h]
  rw[h] at hV
  have hE:=T1 a.oid ho
  rw[(Qb a.oid).1 (R4 h).1] at hE
  have k1:=Ex a.oid
  have hW:=Fl 0 6 false (Bm a.oid) (by omega) (by omega) (by omega)
  have k2:=At 0 6 false (Bm a.oid) (by omega)
  have hQ:=I0 [Ai 0 6 false (Bm a.oid),a.val] (by simp;omega) (by simp)
  rw[show Ai 0 16 true [Ai 0 6 false (Bm a.oid),a.val].flatten=atE a by simp[atE]] at hQ
  refine acQ 35 Tryz.func161 rfl rfl fun _ _ _=> ?_
  (repeat'((conv=>whnf);first|refine Af ?_|refine Aa hV Db ?_|refine Aa hE rfl ?_|refine Aa hW Db ?_|refine Aa hQ Db ?_|exact zE))
 ·rw[if_neg h]
  rw[show atV a=false by simpa using h] at hV
  refine acQ 35 Tryz.func161 rfl rfl fun _ _ _=> ?_
  (repeat'((conv=>whnf);first|refine Ac ?_|refine Aa hV Db ?_|exact zE))
def atO (b:List UInt8):Option Att:=match bG b with
 |some (id,s)=>if Ea s=true then some ⟨id,s⟩ else none
 |none=>none
def Uf (b:List UInt8) (r:LR):Nat×Nat:=if r.code≠0 then(r.code,r.off) else match r.l with
 |[x,y]=>if x.isB 0 6 false=false then(3,x.at') else if odC (bod b x)≠0 then(odC (bod b x),x.body) else(J8 (elO b y),y.at'+L7 (elO b y))
 |_::_::z::_=>(2,z.at')
 |_=>(1,b.length)
def atU (a:Att):List D:=[sD a.oid,Ag true a.val]
def atR (o:Option Att) (e:Nat×Nat):AV:=match o with
 |some a=> .tup [.agg [sx a.oid,.d (Ag true a.val)],erA 0 0]
 |none=> .tup [.agg [sx [],Bc],erA e.1 e.2]
theorem F2 (c o:Int):Ab Tryz.prog 216 [iv c,iv o] (fun r=>r= .tup [.agg [sx [],Bc],.agg [iv c,iv o]]):=by
 refine acQ 10 Tryz.func216 rfl rfl fun _ _ _=> ?_
 (all_goals(conv=>whnf))
 all_goals exact zE
theorem bM (b:List UInt8) (hb:b.length≤800000):Ab Tryz.prog 188 [.d (Ag false b)] (fun r=>r=atR (atO b) (Uf b (Bd b 0 16))):=by
 have hP:=Jw b 0 16 (by omega)
 have hin:=fun x=>Em (b:=b) (c:=0) (n:=16) (x:=x)
 have hO:atO b=match bF b (Bd b 0 16) with
  |some (id,s)=>if Ea s=true then some ⟨id,s⟩ else none
  |none=>none:=rfl
 generalize Bd b 0 16=r at hP hin hO⊢
 by_cases h1:r.code≠0
 ·rw[Yf (.inl h1)] at hO
  rw[hO]
  have hF:=F2 r.code r.off
  rw[lrA,if_pos h1] at hP
  have gc:((r.code:Int) !=0)=true:=by rw[bne_iff_ne];omega
  rw[Uf,if_pos h1]
  generalize r.code=c at hP gc hF
  generalize r.off=o at hP hF
  refine acQ 127 Tryz.func188 rfl rfl fun _ _ _=> ?_
  (repeat'((conv=>whnf);first|refine Av asP ?_|refine Aa hP Db ?_|refine Aa hF rfl ?_|exact zE))
 rw[lrA,if_neg h1] at hP
 rw[Uf,if_neg h1]
 obtain⟨l,c,o⟩:=r
 obtain rfl:c=0:=Decidable.not_not.1 h1
 match l with
 |[]=>
  have e:atO b=none:=hO
  rw[e]
  have hF:=F2 1 b.length
  refine acQ 127 Tryz.func188 rfl rfl fun _ _ _=> ?_
  (repeat'((conv=>whnf);first|refine Ac ?_|refine Af ?_|refine Aa hP Db ?_|refine Aa hF rfl ?_|exact zE))
 |[x]=>
  have e:atO b=none:=hO
  rw[e]
  have hF:=F2 1 b.length
  refine acQ 127 Tryz.func188 rfl rfl fun _ _ _=> ?_
  (repeat'((conv=>whnf);first|refine Ac ?_|refine Af ?_|refine Aa hP Db ?_|refine Aa hF rfl ?_|exact zE))
 |x::y::z::q=>
  have e:atO b=none:=hO
  rw[e]
  have hF:=F2 2 z.at'
  have g2:(x::y::z::q:List El)[2]?=some z:=rfl
  refine acQ 127 Tryz.func188 rfl rfl fun _ _ _=> ?_
  (repeat'((conv=>whnf);first|refine Af ?_|refine Aa hP Db ?_|refine NIdx.tab (fun _=>rfl) g2 ?_|refine Aa hF rfl ?_|(refine NBr.mk (fun hc=> ?_) (fun hc=> ?_)<;>(have hcP:=hc;(try simp only[Ah,decide_eq_true_eq,decide_eq_false_iff_not] at hcP)<;>first|(exfalso;omega)|skip))|exact zE))
 |[x,y]=>
  obtain⟨x1,x2,x3⟩:=hin x (by simp)
  obtain⟨y1,y2,y3⟩:=hin y (by simp)
  have hI:=Ez x 0 6 false
  have hlb:(bod b x).length≤b.length:=by unfold bod;rw[Am,Az];omega
  have hly:(elO b y).length≤b.length:=by unfold elO;rw[Am,Az];omega
  have hD:=N2 (bod b x) (by omega)
  have hC:=Fj (elO b y) (by omega)
  have hT:=Ud (elO b y) (by omega)
  have hto:=bK (elO b y)
  have hop:=R3 (elO b y)
  have g0:([x,y]:List El)[0]?=some x:=rfl
  have g1:([x,y]:List El)[1]?=some y:=rfl
  have hO':atO b=match(if x.isB 0 6 false=true∧odC (bod b x)=0 then some (odT (bod b x),elO b y) else none:Option (List UInt8×List UInt8)) with
   |some (id,s)=>if Ea s=true then some ⟨id,s⟩ else none
   |none=>none:=hO
  show Ab _ _ _ (fun r=>r=atR (atO b) (if x.isB 0 6 false=false then(3,x.at') else if odC (bod b x)≠0 then(odC (bod b x),x.body) else(J8 (elO b y),y.at'+L7 (elO b y))))
  cases hi:x.isB 0 6 false
  ·rw[hi] at hI hO'
   rw[if_neg (by simp)] at hO'
   rw[hO',if_pos rfl]
   have hF:=F2 3 x.at'
   refine acQ 127 Tryz.func188 rfl rfl fun _ _ _=> ?_
   (repeat'((conv=>whnf);first|refine Ac ?_|refine Af ?_|refine Aa hP Db ?_|refine NIdx.tab (fun _=>rfl) g0 ?_|refine Aa hI rfl ?_|refine Aa hF rfl ?_|exact zE))
  rw[hi] at hI hO'
  rw[if_neg (by simp)]
  by_cases h3:odC (bod b x)=0
  ·rw[if_pos ⟨rfl,h3⟩] at hO'
   rw[if_neg (by omega)]
   have hO2:atO b=if Ea (elO b y)=true then some ⟨odT (bod b x),elO b y⟩ else none:=hO'
   rw[M6,h3] at hD
   rw[hop] at hO2
   unfold bod at hD hlb hO2
   generalize odT ((b.drop x.body).take (x.stop-x.body))=ot at hD hO2
   unfold elO at hC hT hto hly hO2⊢
   rcases hT with⟨h4,ta,tq,tm,tk,tl,tcs,hT⟩|⟨h4,hT⟩
   ·rw[h4] at hO2
    rw[if_pos (by rfl)] at hO2
    rw[hO2]
    refine acQ 127 Tryz.func188 rfl rfl fun _ _ _=> ?_
    (repeat'((conv=>whnf);first|refine Af ?_|refine Aa hP Db ?_|refine NIdx.tab (fun _=>rfl) g0 ?_|refine NIdx.tab (fun _=>rfl) g1 ?_|refine Aa hI rfl ?_|refine NSl.slice (x.body) (x.stop) ?_|refine NSl.slice (y.at') (y.stop) ?_|refine Aa hD Db ?_|refine Aa hC Db ?_|refine Aa hT Db ?_|refine zF ?_|exact zE))
   ·rw[if_neg (by rw[beq_iff_eq];exact h4)] at hO2
    rw[hO2]
    have gd:((J8 ((b.drop y.at').take (y.stop-y.at')):Int) !=0)=true:=by rw[bne_iff_ne];omega
    have hF:=F2 (J8 ((b.drop y.at').take (y.stop-y.at'))) ((y.at'+L7 ((b.drop y.at').take (y.stop-y.at')):Nat):Int)
    generalize L7 ((b.drop y.at').take (y.stop-y.at'))=tO at hT hto hF⊢
    generalize J8 ((b.drop y.at').take (y.stop-y.at'))=tC at hT h4 gd hF⊢
    refine acQ 127 Tryz.func188 rfl rfl fun _ _ _=> ?_
    (repeat'((conv=>whnf);first|refine Af ?_|refine Av asP ?_|refine Aa hP Db ?_|refine NIdx.tab (fun _=>rfl) g0 ?_|refine NIdx.tab (fun _=>rfl) g1 ?_|refine Aa hI rfl ?_|refine NSl.slice (x.body) (x.stop) ?_|refine NSl.slice (y.at') (y.stop) ?_|refine Aa hD Db ?_|refine Aa hC Db ?_|refine Aa hT Db ?_|refine NInt.as (((y.at'+tO:Nat):Int)) ((by rw[IntWalk.i64_in _ (by omega)];omega)) ?_|refine Aa hF rfl ?_|refine zF ?_|exact zE))
  ·rw[if_neg (fun h=>h3 h.2)] at hO'
   rw[hO',if_pos h3]
   have gd:((odC (bod b x):Int) !=0)=true:=by rw[bne_iff_ne];omega
   have hF:=F2 (odC (bod b x)) x.body
   rw[M6] at hD
   unfold bod at hD gd hF⊢
   generalize odC ((b.drop x.body).take (x.stop-x.body))=oc at hD gd hF⊢
   generalize odT ((b.drop x.body).take (x.stop-x.body))=ot at hD
   refine acQ 127 Tryz.func188 rfl rfl fun _ _ _=> ?_
   (repeat'((conv=>whnf);first|refine Af ?_|refine Av asP ?_|refine Aa hP Db ?_|refine NIdx.tab (fun _=>rfl) g0 ?_|refine Aa hI rfl ?_|refine NSl.slice (x.body) (x.stop) ?_|refine Aa hD Db ?_|refine Aa hF rfl ?_|refine zF ?_|exact zE))
theorem bN (b:List UInt8):atO b=none→(Uf b (Bd b 0 16)).1≠0∧(Uf b (Bd b 0 16)).2≤b.length:=by
 have hin:=fun x=>Em (b:=b) (c:=0) (n:=16) (x:=x)
 have hoff:=Ik b 0 16
 have hO:atO b=match bF b (Bd b 0 16) with
  |some (id,s)=>if Ea s=true then some ⟨id,s⟩ else none
  |none=>none:=rfl
 rw[hO]
 generalize Bd b 0 16=r at hin hoff⊢
 intro h
 unfold Uf
 by_cases h1:r.code≠0
 ·rw[if_pos h1];exact⟨h1,hoff⟩
 rw[if_neg h1]
 obtain⟨l,c,o⟩:=r
 obtain rfl:c=0:=Decidable.not_not.1 h1
 match l with
 |[]=>exact⟨by simp,Nat.le_refl _⟩
 |[x]=>exact⟨by simp,Nat.le_refl _⟩
 |x::y::z::q=>
  have:=hin z (by simp)
  exact⟨by simp,by show z.at'≤_;omega⟩
 |[x,y]=>
  have hx:=hin x (by simp)
  have hy:=hin y (by simp)
  have hl:(elO b y).length≤y.stop-y.at':=by unfold elO;rw[Am];omega
  have hto:=bK (elO b y)
  have h':(match(if x.isB 0 6 false=true∧odC (bod b x)=0 then some (odT (bod b x),elO b y) else none:Option (List UInt8×List UInt8)) with
   |some (id,s)=>if Ea s=true then some (⟨id,s⟩:Att) else none
   |none=>none)=none:=h
  simp only
  cases hi:x.isB 0 6 false
  ·rw[if_pos rfl];exact⟨by simp,by show x.at'≤_;omega⟩
  rw[if_neg (by simp)]
  by_cases h3:odC (bod b x)=0
  ·rw[if_neg (by omega)]
   rw[if_pos ⟨hi,h3⟩] at h'
   have h2:(if Ea (elO b y)=true then some (⟨odT (bod b x),elO b y⟩:Att) else none)=none:=h'
   rw[R3] at h2
   refine⟨fun e=> ?_,by show y.at'+L7 (elO b y)≤_;omega⟩
   have e:J8 (elO b y)=0:=e
   rw[e,if_pos (by rfl)] at h2;cases h2
  ·rw[if_pos h3];exact⟨h3,by show x.body≤_;omega⟩
def Fp (r:List Att):Bool:= !r.isEmpty&&(r.all atV&&Gi (r.map atE))
def Cu (r:List Att):List UInt8:=Ai 0 17 true (r.map atE).flatten
def nmV (n:List (List Att)):Bool:=n.all Fp
def nmE (n:List (List Att)):List UInt8:=Ai 0 16 true (n.map Cu).flatten
theorem R5 {r:List Att} (h:Fp r=true):r≠[]∧r.all atV=true∧Gi (r.map atE)=true:=by
 unfold Fp at h
 simp only[Aw] at h
 exact⟨by rintro rfl;simp at h,h.2.1,h.2.2⟩
theorem Yl {α:Type} {f:α→Bool} {l:List α} {i:Nat} {x:α} (h:l[i]?=some x) (hf:f x=false):l.all f=false:=by
 cases hh:l.all f with
 |false=>rfl
 |true=>rw[List.all_eq_true.1 hh x (Bl h)] at hf;cases hf
theorem J9 {p:Prop} (h:p:=by first|rfl|(simp only[AV.gives,AV.ren,AV.give,D.un,D.uns,Al,Ak,List.nil_append,List.append_nil,List.cons_append,List.map_cons,List.map_nil,AV.frzs,AV.frz,List.drop_zero,As,Ep,Er,A5,A2,Bi,C9,Cl];first|done|rfl)):p:=h
theorem fW (r:List Att) (i:Nat) {x:Att} (hg:r[i]?=some x) (hx:x.oid.length≤4000000∧x.val.length≤100000000):Ab Tryz.prog 160 [iv i,.d (.cp false [Lr r])] (fun r=>r=if atV x=true then .tup [Be 0 5 (atE x),iv 0] else .tup [Bc,iv 8]):=by
 have hM:=Ve x hx.1 hx.2
 by_cases h:atV x=true
 all_goals
  first|rw[if_pos h] at hM⊢ |rw[if_neg h] at hM⊢
  refine acQ 12 Tryz.func160 rfl rfl fun _ _ _=> ?_
  (repeat'((conv=>whnf);first|refine NIdx.tab (fun _=>rfl) hg ?_|refine Aa hM J9 ?_|exact zE))
theorem Ym (r:List Att) (hl:r.length≤100000) (hs:∀x∈r,x.oid.length≤4000000∧x.val.length≤100000000) (hq:(r.map atE).flatten.length≤100000000) (hp:∀x∈r,(atE x).length≤100000000):Ab Tryz.prog 129 [.agg [iv 17,bv true],iv r.length,.cl 160 [] [.d (.cp false [Lr r])]] (fun q=>q=if r.all atV=true∧Gi (r.map atE)=true then .tup [Be 0 5 (Ai 0 17 true (r.map atE).flatten),iv 0] else .tup [Bc,iv 8]):=by
 have hW:=Jv 0 17 true (r.map atE) (by omega) (by omega) (by omega) (by rw[List.length_map];omega)
 have hO2:=Q3 (r.map atE) (by rw[List.length_map];omega) (fun p hp0=>by
  obtain⟨x,hx,rfl⟩:=List.mem_map.1 hp0
  have:=hp x hx;omega)
 refine acQ 43 Tryz.func129 rfl rfl fun _ _ _=> ?_
 (all_goals(conv=>whnf))
 refine Bg [.s 8 1 22] (fun i:Nat=>i≤r.length∧(r.take i).all atV=true) (fun i=>r.length-i) (fun i=>⟨[(2,.cl 160 [] [.d (.cp false [Lr r])]),(3,.ptr 3 0),(8,C9 8 1 22 Fe ((r.take i).map atE)),(12,iv r.length),(13,iv i)],[(3,[iv 17,bv true])],[(8,(((r.take i).map atE).length,1,22))]⟩) 0 ⟨by omega,rfl⟩ leQ ?_
 rintro i ⟨hi,ha⟩
 have hml:((r.take i).map atE).length≤100000:=by rw[List.length_map,Am];omega
 by_cases hik:i<r.length
 ·have gi:decide ((i:Int)<r.length)=true:=decide_eq_true (by omega)
  obtain⟨x,hg⟩:∃p,r[i]?=some p:=⟨_,Ar hik⟩
  have hO:=fW r i hg (hs x (Bl hg))
  cases hv:atV x
  ·rw[hv,if_neg (by simp)] at hO
   rw[if_neg (by rintro⟨h,-⟩;rw[Yl hg hv] at h;cases h)]
   (repeat'((conv=>whnf);first|refine Ac ?_|refine Av asP ?_|refine Aa hO J9 ?_|exact zE))
  ·rw[hv,if_pos rfl] at hO
   have hs':=Gm atE hg
   (repeat'((conv=>whnf);first|refine Af ?_|refine Av asP ?_|refine Aa hO J9 ?_|refine A9 Fe (atE x) ?_|(with_reducible refine NInt.i64 ?_)));(all_goals(conv=>whnf))
   refine⟨i+1,⟨by omega,H2 atV hg hv ha⟩,by omega,?_⟩
   rw[hs']
   exact leQ
 ·have gi:decide ((i:Int)<r.length)=false:=decide_eq_false (by omega)
  obtain rfl:i=r.length:=by omega
  rw[List.take_length] at ha⊢
  cases ho:Gi (r.map atE)
  ·rw[ho] at hO2
   rw[if_neg (by rintro⟨-,h⟩;cases h)]
   (repeat'((conv=>whnf);first|refine Ac ?_|refine Ax asP ?_|refine Aa hO2 J9 ?_|exact zE))
  ·rw[ho] at hO2
   rw[if_pos ⟨ha,rfl⟩]
   (repeat'((conv=>whnf);first|refine Ac ?_|refine Af ?_|refine Ax asP ?_|refine Aa hO2 J9 ?_|refine Aa hW J9 ?_|exact zE))
structure Att.sm (a:Att):Prop where
 o:a.oid.length≤3000000
 v:a.val.length≤3000000
theorem Yn {a:Att} (h:a.sm):(atE a).length≤a.oid.length*5+a.val.length+20:=by
 have h1:=Ex a.oid
 have:=h.o
 have:=h.v
 have h2:=At 0 6 false (Bm a.oid) (by omega)
 have h3:=At 0 16 true (Ai 0 6 false (Bm a.oid)++a.val) (by rw[Ap];omega)
 rw[Ap] at h3
 have e:(atE a).length=(Ai 0 16 true (Ai 0 6 false (Bm a.oid)++a.val)).length:=rfl
 omega
structure rdnZ (r:List Att):Prop where
 l:r.length≤100000
 a:∀a∈r,a.sm
 e:(r.map atE).flatten.length≤90000000
structure nmZ (n:List (List Att)):Prop where
 l:n.length≤100000
 r:∀r∈n,rdnZ r
 e:(n.map Cu).flatten.length≤90000000
theorem fX (r:List Att) (hz:rdnZ r):Ab Tryz.prog 131 [.d (Lr r)] (fun q=>q=if Fp r=true then .tup [Be 0 5 (Cu r),iv 0] else .tup [Bc,iv 8]):=by
 obtain⟨hl,hs,hq⟩:=hz
 have hS:=Ym r (by omega) (fun a ha=>by have:=(hs a ha).o;have:=(hs a ha).v;exact⟨by omega,by omega⟩) (by omega) (fun a ha=>by have:=Yn (hs a ha);have:=(hs a ha).o;have:=(hs a ha).v;omega)
 cases r with
 |nil=>
  show Ab _ _ _ (fun q=>q= .tup [Bc,iv 8])
  refine acQ 17 Tryz.func131 rfl rfl fun _ _ _=> ?_
  (repeat'((conv=>whnf);refine Ac ?_));(all_goals(conv=>whnf))
  all_goals exact zE
 |cons a q=>
  have gl:(((a::q).length:Int)==0)=false:=by rw[beq_eq_false_iff_ne,Ah];omega
  by_cases h:Fp (a::q)=true
  ·rw[if_pos h]
   rw[if_pos (R5 h).2] at hS
   unfold Cu
   generalize (a::q)=r at hS gl
   refine acQ 17 Tryz.func131 rfl rfl fun _ _ _=> ?_
   (repeat'((conv=>whnf);first|refine Ax asP ?_|refine Aa hS J9 ?_|exact zE))
  ·rw[if_neg h]
   rw[if_neg (fun k=>h (by unfold Fp;rw[k.1,k.2];rfl))] at hS
   generalize (a::q)=r at hS gl
   refine acQ 17 Tryz.func131 rfl rfl fun _ _ _=> ?_
   (repeat'((conv=>whnf);first|refine Ax asP ?_|refine Aa hS J9 ?_|exact zE))
theorem tK {r:List Att} (hz:rdnZ r):(Cu r).length≤(r.map atE).flatten.length+6:=by
 have hq:=hz.e
 have:=At 0 17 true (r.map atE).flatten (by omega)
 unfold Cu;omega
theorem nP (r:List (List Att)) (i:Nat) {x:List Att} (hg:r[i]?=some x) (hx:rdnZ x):Ab Tryz.prog 130 [iv i,.d (.cp false [Gs r])] (fun r=>r=if Fp x=true then .tup [Be 0 5 (Cu x),iv 0] else .tup [Bc,iv 8]):=by
 have hM:=fX x hx
 by_cases h:Fp x=true
 all_goals
  first|rw[if_pos h] at hM⊢ |rw[if_neg h] at hM⊢
  refine acQ 12 Tryz.func130 rfl rfl fun _ _ _=> ?_
  (repeat'((conv=>whnf);first|refine NIdx.tab (fun _=>rfl) hg ?_|refine Aa hM J9 ?_|exact zE))
theorem bO (r:List (List Att)) (hl:r.length≤100000) (hs:∀x∈r,rdnZ x) (hq:(r.map Cu).flatten.length≤100000000) (_:∀x∈r,(Cu x).length≤100000000):Ab Tryz.prog 129 [.agg [iv 16,bv false],iv r.length,.cl 130 [] [.d (.cp false [Gs r])]] (fun q=>q=if r.all Fp=true then .tup [Be 0 5 (Ai 0 16 true (r.map Cu).flatten),iv 0] else .tup [Bc,iv 8]):=by
 have hW:=Jv 0 16 true (r.map Cu) (by omega) (by omega) (by omega) (by rw[List.length_map];omega)
 refine acQ 43 Tryz.func129 rfl rfl fun _ _ _=> ?_
 (all_goals(conv=>whnf))
 refine Bg [.s 8 1 22] (fun i:Nat=>i≤r.length∧(r.take i).all Fp=true) (fun i=>r.length-i) (fun i=>⟨[(2,.cl 130 [] [.d (.cp false [Gs r])]),(3,.ptr 3 0),(8,C9 8 1 22 Fe ((r.take i).map Cu)),(12,iv r.length),(13,iv i)],[(3,[iv 16,bv false])],[(8,(((r.take i).map Cu).length,1,22))]⟩) 0 ⟨by omega,rfl⟩ leQ ?_
 rintro i ⟨hi,ha⟩
 have hml:((r.take i).map Cu).length≤100000:=by rw[List.length_map,Am];omega
 by_cases hik:i<r.length
 ·have gi:decide ((i:Int)<r.length)=true:=decide_eq_true (by omega)
  obtain⟨x,hg⟩:∃p,r[i]?=some p:=⟨_,Ar hik⟩
  have hO:=nP r i hg (hs x (Bl hg))
  cases hv:Fp x
  ·rw[hv,if_neg (by simp)] at hO
   rw[if_neg (by rintro h;rw[Yl hg hv] at h;cases h)]
   (repeat'((conv=>whnf);first|refine Ac ?_|refine Av asP ?_|refine Aa hO J9 ?_|exact zE))
  ·rw[hv,if_pos rfl] at hO
   have hs':=Gm Cu hg
   (repeat'((conv=>whnf);first|refine Af ?_|refine Av asP ?_|refine Aa hO J9 ?_|refine A9 Fe (Cu x) ?_|(with_reducible refine NInt.i64 ?_)));(all_goals(conv=>whnf))
   refine⟨i+1,⟨by omega,H2 Fp hg hv ha⟩,by omega,?_⟩
   rw[hs']
   exact leQ
 ·have gi:decide ((i:Int)<r.length)=false:=decide_eq_false (by omega)
  obtain rfl:i=r.length:=by omega
  rw[List.take_length] at ha⊢
  rw[if_pos ha]
  (repeat'((conv=>whnf);first|refine Af ?_|refine Ax asP ?_|refine Aa hW J9 ?_|exact zE))
theorem nQ (n:List (List Att)) (h:nmZ n):Ab Tryz.prog 95 [.d (Gs n)] (fun q=>q=if nmV n=true then .tup [Be 0 5 (nmE n),iv 0] else .tup [Bc,iv 8]):=by
 have hq:=h.e
 have hl:=h.l
 have hS:=bO n (by omega) h.r (by omega) (fun r hr=>by
  have:=Hg (p:=Cu r) (l:=n.map Cu) (List.mem_map_of_mem hr)
  omega)
 unfold nmV nmE
 by_cases hv:n.all Fp=true
 all_goals
  first|rw[if_pos hv] at hS⊢ |rw[if_neg hv] at hS⊢
  refine acQ 14 Tryz.func95 rfl rfl fun _ _ _=> ?_
  (repeat'((conv=>whnf);refine Aa hS J9 ?_));(all_goals(conv=>whnf))
  all_goals exact zE
theorem tL (l:List (List UInt8)):D.uns (l.flatMap Iz)=l.flatMap Iz:=by
 induction l with
 |nil=>rfl
 |cons p r ih=>
  show D.un (Ag false p)::D.uns (r.flatMap Iz)=_
  rw[Al,ih];rfl
def fY (r:List Att):D:=Hk true 2 atU r
theorem iZ (l:List Att):D.uns (l.flatMap atU)=l.flatMap atC:=by
 induction l with
 |nil=>rfl
 |cons m r ih=>
  show D.un (sD m.oid)::D.un (Ag true m.val)::D.uns (r.flatMap atU)=_
  rw[Al,ih];rfl
theorem Dn (r:List Att):(fY r).un=Lr r:=by
 show D.sl false r.length 2 (D.uns (r.flatMap atU))=_
 rw[iZ];rfl
def Rb (r:List Att):List D:=[fY r]
def Nm (n:List (List Att)):D:=Hk true 1 Rb n
theorem Wo (n:List (List Att)):D.uns (n.flatMap Rb)=n.flatMap sA:=by
 induction n with
 |nil=>rfl
 |cons m r ih=>
  show D.un (fY m)::D.uns (r.flatMap Rb)=_
  rw[Dn,ih];rfl
theorem Cq (n:List (List Att)):(Nm n).un=Gs n:=by
 show D.sl false n.length 1 (D.uns (n.flatMap Rb))=_
 rw[Wo];rfl
def bP (b:List UInt8):Nat×Nat:=Uf b (Bd b 0 16)
def Rh (b:List UInt8):List El→List (List UInt8)→List Att→Option (List Att)×Nat×Nat
 |[],_,out=>(some out,0,0)
 |x::r,ps,out=>match atO (elO b x) with
  |none=>(none,(bP (elO b x)).1,x.at'+(bP (elO b x)).2)
  |some a=>if Gi (ps++[elO b x])=true then Rh b r (ps++[elO b x]) (out++[a]) else(none,7,x.at')
def tM (b:List UInt8) (r:LR):Option (List Att)×Nat×Nat:=if r.code≠0 then(none,r.code,r.off) else if r.l=[] then(none,1,b.length) else Rh b r.l [] []
def M9 (b:List UInt8):Option (List Att)×Nat×Nat:=tM b (Bd b 0 17)
def GI:Option (List Att)×Nat×Nat→AV
 |(some r,_,_)=> .tup [.d (fY r),erA 0 0]
 |(none,c,o)=> .tup [Bc,erA c o]
theorem R6 (b:List UInt8) (x:El):(elO b x).length≤b.length:=by unfold elO;rw[Am,Az];omega
theorem Ug (b:List UInt8) (x:El):(elO b x).length≤x.stop-x.at':=by unfold elO;rw[Am];omega
theorem Hm {p:Prop} (h:p:=by first|rfl|(simp only[AV.gives,AV.ren,AV.give,D.un,D.uns,Al,Ak,List.nil_append,List.append_nil,List.cons_append,As,A0,Ep,Er,A5,A2,Bi,C9,Cl,tL];first|done|rfl)):p:=h
theorem fZ (b:List UInt8) (hb:b.length≤800000):Ab Tryz.prog 166 [.d (Ag false b)] (fun r=>r=GI (M9 b)):=by
 have hP:=Jw b 0 17 (by omega)
 have hin:=fun x=>Em (b:=b) (c:=0) (n:=17) (x:=x)
 have hcn:=N7 b 0 17
 unfold M9
 generalize Bd b 0 17=R at hP hin hcn⊢
 unfold tM
 by_cases h1:R.code≠0
 ·rw[if_pos h1]
  rw[lrA,if_pos h1] at hP
  have gc:((R.code:Int) !=0)=true:=by rw[bne_iff_ne];omega
  generalize R.code=c at hP gc
  generalize R.off=o at hP
  show Ab _ _ _ (fun r=>r= .tup [Bc,erA c o])
  refine acQ 76 Tryz.func166 rfl rfl fun _ _ _=> ?_
  (repeat'((conv=>whnf);first|refine Av asP ?_|refine Aa hP Hm ?_|refine zF ?_|exact zE))
 rw[if_neg h1]
 rw[lrA,if_neg h1] at hP
 generalize R.l=l at hP hin hcn⊢
 by_cases hl:l=[]
 ·subst hl
  show Ab _ _ _ (fun r=>r= .tup [Bc,erA 1 b.length])
  refine acQ 76 Tryz.func166 rfl rfl fun _ _ _=> ?_
  (repeat'((conv=>whnf);first|refine Ac ?_|refine Af ?_|refine Aa hP Hm ?_|exact zE))
 rw[if_neg hl]
 have gl:((l.length:Int)==0)=false:=by rw[beq_eq_false_iff_ne];intro h;exact hl (List.eq_nil_of_length_eq_zero (by omega))
 generalize hQ:Rh b l [] []=q
 refine acQ 76 Tryz.func166 rfl rfl fun _ _ _=> ?_
 (repeat'((conv=>whnf);first|refine Af ?_|refine Ax asP ?_|refine Aa hP Hm ?_));(all_goals(conv=>whnf))
 refine Bg [.s 6 2 131,.s 7 1 22] (fun z:Nat×List (List UInt8)×List Att=>z.1≤l.length∧z.2.1.length≤z.1∧z.2.2.length≤z.1∧(∀p∈z.2.1,p.length≤b.length)∧q=Rh b (l.drop z.1) z.2.1 z.2.2) (fun z=>l.length-z.1) (fun z=>⟨[(0,.d (Ag false b)),(3,.ptr 3 0),(6,C9 6 2 131 atU z.2.2),(7,C9 7 1 22 Iz z.2.1),(27,.d (fB l)),(28,iv l.length),(29,iv z.1)],[(3,[iv 0,iv 0])],[(6,(z.2.2.length,2,131)),(7,(z.2.1.length,1,22))]⟩) (0,[],[]) ⟨by simp,by simp,by simp,by simp,by rw[List.drop_zero];exact hQ.symm⟩ leQ ?_
 rintro⟨i,ps,out⟩ ⟨hi,hps,hou,hpl,he⟩
 simp only at hi hps hou hpl he
 by_cases hik:i<l.length
 ·have gi:decide ((i:Int)<l.length)=true:=decide_eq_true (by omega)
  obtain⟨x,hg⟩:∃p,l[i]?=some p:=⟨_,Ar hik⟩
  obtain⟨x1,x2,x3⟩:=hin x (Bl hg)
  have hel:=R6 b x
  have hle:=Ug b x
  have hA:=bM (elO b x) (by omega)
  have hAe:=bN (elO b x)
  rw[Qh hg,Rh] at he
  have hA:Ab Tryz.prog 188 [.d (Ag false (elO b x))] (fun r=>r=atR (atO (elO b x)) (bP (elO b x))):=hA
  have hAe:atO (elO b x)=none→(bP (elO b x)).1≠0∧(bP (elO b x)).2≤(elO b x).length:=hAe
  generalize bP (elO b x)=er at hA hAe he
  cases ho:atO (elO b x) with
  |none=>
   rw[ho] at hA he
   obtain⟨e1,e2⟩:=hAe ho
   obtain⟨ec,eo⟩:=er
   simp only at e1 e2 he
   subst he
   have gc:((ec:Int) !=0)=true:=by rw[bne_iff_ne];omega
   have hA:Ab Tryz.prog 188 [.d (Ag false (elO b x))] (fun r=>r= .tup [.agg [sx [],Bc],erA ec eo]):=hA
   unfold elO at hA e2
   (repeat'((conv=>whnf);first|refine Av asP ?_|refine NIdx.tab (fun _=>rfl) hg ?_|refine NSl.slice (x.at') (x.stop) ?_|refine A9 Iz ((b.drop x.at').take (x.stop-x.at')) ?_|refine Aa hA Hm ?_|(with_reducible refine NInt.i64 ?_)|refine zF ?_|exact zE))
  |some a=>
   rw[ho] at hA he
   have hA:Ab Tryz.prog 188 [.d (Ag false (elO b x))] (fun r=>r= .tup [.agg [sx a.oid,.d (Ag true a.val)],erA 0 0]):=hA
   simp only at he
   have hOr:=Q3 (ps++[elO b x]) (by rw[Ap,List.length_singleton];omega) (fun p hp=>by
    rcases List.mem_append.1 hp with h|h
    ·have:=hpl p h;omega
    ·rw[List.mem_singleton.1 h];omega)
   unfold elO at hA hOr he
   cases hor:Gi (ps++[(b.drop x.at').take (x.stop-x.at')])
   ·rw[hor] at hOr he
    rw[if_neg (by simp)] at he
    subst he
    (repeat'((conv=>whnf);first|refine Ac ?_|refine Af ?_|refine Av asP ?_|refine NIdx.tab (fun _=>rfl) hg ?_|refine NSl.slice (x.at') (x.stop) ?_|refine A9 Iz ((b.drop x.at').take (x.stop-x.at')) ?_|refine Aa hA Hm ?_|refine Aa hOr Hm ?_|refine zF ?_|exact zE))
   ·rw[hor] at hOr he
    rw[if_pos rfl] at he
    (repeat'((conv=>whnf);first|refine Af ?_|refine Av asP ?_|refine NIdx.tab (fun _=>rfl) hg ?_|refine NSl.slice (x.at') (x.stop) ?_|refine A9 Iz ((b.drop x.at').take (x.stop-x.at')) ?_|refine Aa hA Hm ?_|refine Aa hOr Hm ?_|refine A9 atU a ?_|(with_reducible refine NInt.i64 ?_)));(all_goals(conv=>whnf))
    refine⟨(i+1,ps++[(b.drop x.at').take (x.stop-x.at')],out++[a]),⟨by show i+1≤_;omega,by simp;omega,by simp;omega,fun p hp=> ?_,he⟩,by show l.length-(i+1)<l.length-i;omega,?_⟩
    ·rcases List.mem_append.1 hp with h|h
     ·exact hpl p h
     ·rw[List.mem_singleton.1 h];exact hel
    ·exact leQ
 ·have gi:decide ((i:Int)<l.length)=false:=decide_eq_false (by omega)
  obtain rfl:i=l.length:=by omega
  rw[List.drop_length,Rh] at he
  subst he
  (repeat'((conv=>whnf);refine Ax asP ?_));(all_goals(conv=>whnf))
  all_goals exact zE
def nmL (b:List UInt8):List El→List (List Att)→Option (List (List Att))×Nat×Nat
 |[],out=>(some out,0,0)
 |x::r,out=>match M9 (elO b x) with
  |(none,c,o)=>(none,c,x.at'+o)
  |(some a,_,_)=>nmL b r (out++[a])
def nmQ (b:List UInt8) (r:LR):Option (List (List Att))×Nat×Nat:=if r.code≠0 then(none,r.code,r.off) else nmL b r.l []
def nmR (b:List UInt8):Option (List (List Att))×Nat×Nat:=nmQ b (Bd b 0 16)
def nmA:Option (List (List Att))×Nat×Nat→AV
 |(some r,_,_)=> .tup [.d (Nm r),erA 0 0]
 |(none,c,o)=> .tup [Bc,erA c o]
theorem jA (b:List UInt8):∀(l:List El) (ps:List (List UInt8)) (out:List Att),(∀x∈l,x.at'≤x.stop∧x.stop≤b.length)→(Rh b l ps out).1=none→(Rh b l ps out).2.1≠0∧(Rh b l ps out).2.2≤b.length
 |[],_,_,_,h=>by cases h
 |x::r,ps,out,hx,h=>by
  have hle:=Ug b x
  have hAe:atO (elO b x)=none→(bP (elO b x)).1≠0∧(bP (elO b x)).2≤(elO b x).length:=bN (elO b x)
  have:=hx x (by simp)
  rw[Rh] at h⊢
  cases ho:atO (elO b x) with
  |none=>obtain⟨e1,e2⟩:=hAe ho;exact⟨e1,by show x.at'+_≤_;omega⟩
  |some a=>
   rw[ho] at h
   simp only at h⊢
   by_cases hor:Gi (ps++[elO b x])=true
   ·rw[if_pos hor] at h⊢
    exact jA b r _ _ (fun y hy=>hx y (by simp[hy])) h
   ·rw[if_neg hor];exact⟨by simp,by show x.at'≤_;omega⟩
theorem jB (b:List UInt8) (h:(M9 b).1=none):(M9 b).2.1≠0∧(M9 b).2.2≤b.length:=by
 have hin:=fun x=>Em (b:=b) (c:=0) (n:=17) (x:=x)
 have hoff:=Ik b 0 17
 unfold M9 at h⊢
 generalize Bd b 0 17=R at hin hoff h⊢
 unfold tM at h⊢
 by_cases h1:R.code≠0
 ·rw[if_pos h1];exact⟨h1,hoff⟩
 rw[if_neg h1] at h⊢
 by_cases hl:R.l=[]
 ·rw[if_pos hl];exact⟨by simp,Nat.le_refl _⟩
 ·rw[if_neg hl] at h⊢
  exact jA b R.l [] [] (fun y hy=>by have:=hin y hy;omega) h
theorem nR (b:List UInt8) (hb:b.length≤800000):Ab Tryz.prog 137 [.d (Ag false b)] (fun r=>r=nmA (nmR b)):=by
 have hP:=Jw b 0 16 (by omega)
 have hin:=fun x=>Em (b:=b) (c:=0) (n:=16) (x:=x)
 have hcn:=N7 b 0 16
 unfold nmR
 generalize Bd b 0 16=R at hP hin hcn⊢
 unfold nmQ
 by_cases h1:R.code≠0
 ·rw[if_pos h1]
  rw[lrA,if_pos h1] at hP
  have gc:((R.code:Int) !=0)=true:=by rw[bne_iff_ne];omega
  generalize R.code=c at hP gc
  generalize R.off=o at hP
  show Ab _ _ _ (fun r=>r= .tup [Bc,erA c o])
  refine acQ 54 Tryz.func137 rfl rfl fun _ _ _=> ?_
  (repeat'((conv=>whnf);first|refine Av asP ?_|refine Aa hP Hm ?_|refine zF ?_|exact zE))
 rw[if_neg h1]
 rw[lrA,if_neg h1] at hP
 generalize R.l=l at hP hin hcn⊢
 generalize hQ:nmL b l []=q
 refine acQ 54 Tryz.func137 rfl rfl fun _ _ _=> ?_
 (repeat'((conv=>whnf);first|refine Af ?_|refine Aa hP Hm ?_));(all_goals(conv=>whnf))
 refine Bg [.s 6 1 129] (fun z:Nat×List (List Att)=>z.1≤l.length∧z.2.length≤z.1∧q=nmL b (l.drop z.1) z.2) (fun z=>l.length-z.1) (fun z=>⟨[(0,.d (Ag false b)),(3,.ptr 3 0),(6,C9 6 1 129 Rb z.2),(20,.d (fB l)),(21,iv l.length),(22,iv z.1)],[(3,[iv 0,iv 0])],[(6,(z.2.length,1,129))]⟩) (0,[]) ⟨by simp,by simp,by rw[List.drop_zero];exact hQ.symm⟩ leQ ?_
 rintro⟨i,out⟩ ⟨hi,hou,he⟩
 simp only at hi hou he
 by_cases hik:i<l.length
 ·have gi:decide ((i:Int)<l.length)=true:=decide_eq_true (by omega)
  obtain⟨x,hg⟩:∃p,l[i]?=some p:=⟨_,Ar hik⟩
  obtain⟨x1,x2,x3⟩:=hin x (Bl hg)
  have hel:=R6 b x
  have hle:=Ug b x
  have hA:=fZ (elO b x) (by omega)
  have hAe:=jB (elO b x)
  rw[Qh hg,nmL] at he
  generalize M9 (elO b x)=er at hA hAe he
  obtain⟨eo,ec,ep⟩:=er
  cases eo with
  |none=>
   obtain⟨e1,e2⟩:=hAe rfl
   simp only at e1 e2 he
   subst he
   have gc:((ec:Int) !=0)=true:=by rw[bne_iff_ne];omega
   have hA:Ab Tryz.prog 166 [.d (Ag false (elO b x))] (fun r=>r= .tup [Bc,erA ec ep]):=hA
   unfold elO at hA e2
   (repeat'((conv=>whnf);first|refine Av asP ?_|refine NIdx.tab (fun _=>rfl) hg ?_|refine NSl.slice (x.at') (x.stop) ?_|refine Aa hA Hm ?_|(with_reducible refine NInt.i64 ?_)|refine zF ?_|exact zE))
  |some a=>
   simp only at he
   have hA:Ab Tryz.prog 166 [.d (Ag false (elO b x))] (fun r=>r= .tup [.d (fY a),erA 0 0]):=hA
   unfold elO at hA
   (repeat'((conv=>whnf);first|refine Af ?_|refine Av asP ?_|refine NIdx.tab (fun _=>rfl) hg ?_|refine NSl.slice (x.at') (x.stop) ?_|refine Aa hA Hm ?_|refine A9 Rb a ?_|(with_reducible refine NInt.i64 ?_)));(all_goals(conv=>whnf))
   refine⟨(i+1,out++[a]),⟨by show i+1≤_;omega,by simp;omega,he⟩,by show l.length-(i+1)<l.length-i;omega,?_⟩
   exact leQ
 ·have gi:decide ((i:Int)<l.length)=false:=decide_eq_false (by omega)
  obtain rfl:i=l.length:=by omega
  rw[List.drop_length,nmL] at he
  subst he
  (repeat'((conv=>whnf);refine Ax asP ?_));(all_goals(conv=>whnf))
  all_goals exact zE
theorem tN (b:List UInt8):∀(l:List El) (out:List (List Att)),(∀x∈l,x.at'≤x.stop∧x.stop≤b.length)→(nmL b l out).1=none→(nmL b l out).2.1≠0∧(nmL b l out).2.2≤b.length
 |[],_,_,h=>by cases h
 |x::r,out,hx,h=>by
  have hle:=Ug b x
  have hAe:=jB (elO b x)
  have:=hx x (by simp)
  rw[nmL] at h⊢
  generalize M9 (elO b x)=er at hAe h⊢
  obtain⟨eo,ec,ep⟩:=er
  cases eo with
  |none=>obtain⟨e1,e2⟩:=hAe rfl;exact⟨e1,by show x.at'+ep≤_;simp only at e2;omega⟩
  |some a=>exact tN b r _ (fun y hy=>hx y (by simp[hy])) h
theorem DC (b:List UInt8) (h:(nmR b).1=none):(nmR b).2.1≠0∧(nmR b).2.2≤b.length:=by
 have hin:=fun x=>Em (b:=b) (c:=0) (n:=16) (x:=x)
 have hoff:=Ik b 0 16
 unfold nmR at h⊢
 generalize Bd b 0 16=R at hin hoff h⊢
 unfold nmQ at h⊢
 by_cases h1:R.code≠0
 ·rw[if_pos h1];exact⟨h1,hoff⟩
 rw[if_neg h1] at h⊢
 exact tN b R.l [] (fun y hy=>by have:=hin y hy;omega) h
abbrev gnQ (g:Gn):AV:= .agg [iv g.k,.d (sD g.oid),.d (sD g.tx),.d (Ag true g.by'),.d (Nm g.nm),iv g.ak,.d (sD g.av),iv g.pk,.d (sD g.pv)]
def gz:Gn:=⟨0,[],[],[],[],0,[],0,[]⟩
abbrev ptA (k:Int) (c:List UInt8):AV:= .agg [iv k,.d (Ag false c)]
abbrev gbA (p:Gn×Bool):AV:= .tup [gnQ p.1,bv p.2]
theorem Dc {p:Prop} (h:p:=by first|rfl|(simp only[AV.gives,AV.ren,AV.give,D.un,D.uns,Al,Ak,List.nil_append,List.append_nil,List.cons_append,As,A0,Bb,A5,A2,Ba,Bi,Dn,Cq];first|done|rfl)):p:=h
theorem Qj (k:Int) (c:List UInt8) (hl:c.length≤1000000):Ab Tryz.prog 103 [ptA k c] (fun r=>r=gbA (⟨k,[],Cm 22 c,[],[],0,[],0,[]⟩,Dl 22 c==0)):=by
 have hE:=Kq 22 c hl
 refine acQ 19 Tryz.func103 rfl rfl fun _ _ _=> ?_
 (repeat'((conv=>whnf);refine Aa hE Dc ?_));(all_goals(conv=>whnf))
 all_goals exact zE
theorem Uh (k:Int) (c:List UInt8) (hl:c.length≤1000000):Ab Tryz.prog 104 [ptA k c] (fun r=>r=gbA (⟨k,[],[],c,[],0,[],0,[]⟩,true)):=by
 have hE:=Fj c (by omega)
 refine acQ 10 Tryz.func104 rfl rfl fun _ _ _=> ?_
 (repeat'((conv=>whnf);first|refine Aa hE Dc ?_|refine zF ?_|exact zE))
theorem bQ (k:Int) (c:List UInt8) (hl:c.length≤800000):Ab Tryz.prog 107 [ptA k c] (fun r=>r=gbA (⟨k,odT c,[],[],[],0,[],0,[]⟩,(odC c:Int)==0)):=by
 have hE:=N2 c (by omega)
 rw[M6] at hE
 refine acQ 18 Tryz.func107 rfl rfl fun _ _ _=> ?_
 (repeat'((conv=>whnf);refine Aa hE Dc ?_));(all_goals(conv=>whnf))
 all_goals exact zE
def Ph (k:Int) (c:List UInt8):Gn×Bool:=match nmR c with
 |(some n,_,_)=>(⟨k,[],[],[],n,0,[],0,[]⟩,true)
 |(none,_,_)=>(⟨k,[],[],[],[],0,[],0,[]⟩,false)
theorem tP (k:Int) (c:List UInt8) (hl:c.length≤800000):Ab Tryz.prog 105 [ptA k c] (fun r=>r=gbA (Ph k c)):=by
 have hE:=nR c hl
 have ho:=DC c
 unfold Ph
 generalize nmR c=q at hE ho⊢
 obtain⟨n,cd,of⟩:=q
 cases n with
 |none=>
  have h0:=(ho rfl).1
  simp only at h0
  have g0:((cd:Int)==0)=false:=by rw[beq_eq_false_iff_ne];omega
  have hE:Ab Tryz.prog 137 [.d (Ag false c)] (fun r=>r= .tup [Bc,erA cd of]):=hE
  refine acQ 19 Tryz.func105 rfl rfl fun _ _ _=> ?_
  (repeat'((conv=>whnf);first|refine Aa hE Dc ?_|refine zF ?_));(all_goals(conv=>whnf))
  all_goals(refine A6 ?_;(repeat'(first|exact trivial|exact Ay _|refine And.intro ?_ ?_|exact rfl));(all_goals(conv=>whnf)))
  all_goals exact g0
 |some n=>
  have hE:Ab Tryz.prog 137 [.d (Ag false c)] (fun r=>r= .tup [.d (Nm n),erA 0 0]):=hE
  refine acQ 19 Tryz.func105 rfl rfl fun _ _ _=> ?_
  (repeat'((conv=>whnf);first|refine Aa hE Dc ?_|refine zF ?_|exact zE))
theorem N8 {c p:List UInt8} (h:p∈Dm c):p.length≤c.length:=by
 unfold Dm at h
 split at h
 ·cases h
 ·obtain⟨x,-,rfl⟩:=List.mem_map.1 h
  exact R6 c x
def inn (b:List UInt8) (n:Nat):List UInt8:=(Cr b n).getD []
theorem yV (b:List UInt8) (n:Nat) (hb:b.length≤1000000000):Ab Tryz.prog 135 [.d (Ag false b),iv n] (fun r=>r=rX (Cr b n)):=mL b n hb
theorem Pi (b:List UInt8) (n:Nat):(inn b n).length≤b.length:=by
 unfold inn Cr
 split
 ·exact Nat.zero_le _
 ·show((b.drop _).take _).length≤_;rw[Am,Az];omega
def Vf (k:Int) (p q:List UInt8):Gn×Bool:=if(Bh p).code≠0∨(Bh p).x.isB 0 6 false=false then(gz,false) else
 (⟨k,odT (p.drop (Bh p).x.body),[],inn q 0,[],0,[],0,[]⟩,(Cr q 0).isSome&&((odC (p.drop (Bh p).x.body):Int)==0))
def Na (k:Int) (c:List UInt8):Gn×Bool:=match Dm c with
 |[p,q]=>Vf k p q
 |_=>(gz,false)
theorem tQ (k:Int) (c:List UInt8) (hl:c.length≤800000):Ab Tryz.prog 102 [ptA k c] (fun r=>r=gbA (Na k c)):=by
 have hS:=V4 c (by omega)
 have hm:=fun p=>N8 (c:=c) (p:=p)
 unfold Na
 generalize Dm c=l at hS hm⊢
 match l with
 |[]=>
  refine acQ 62 Tryz.func102 rfl rfl fun _ _ _=> ?_
  (repeat'((conv=>whnf);first|refine Ac ?_|refine Aa hS Dc ?_|exact zE))
 |[x]=>
  refine acQ 62 Tryz.func102 rfl rfl fun _ _ _=> ?_
  (repeat'((conv=>whnf);first|refine Ac ?_|refine Aa hS Dc ?_|exact zE))
 |x::y::z::r=>
  refine acQ 62 Tryz.func102 rfl rfl fun _ _ _=> ?_
  (repeat'((conv=>whnf);first|refine Ac ?_|refine Aa hS Dc ?_|exact zE))
 |[p,q]=>
  have hp:=hm p (by simp)
  have hq:=hm q (by simp)
  have g0:([p,q]:List (List UInt8))[0]?=some p:=rfl
  have g1:([p,q]:List (List UInt8))[1]?=some q:=rfl
  have hO:=Kn p (by omega)
  have hF:=D7 p
  have hI:=Ez (Bh p).x 0 6 false
  show Ab _ _ _ (fun r=>r=gbA (Vf k p q))
  unfold Vf
  by_cases h1:(Bh p).code≠0
  ·rw[if_pos (.inl h1)]
   generalize Bh p=r1 at hO h1
   have gc:((r1.code:Int) !=0)=true:=by rw[bne_iff_ne];omega
   refine acQ 62 Tryz.func102 rfl rfl fun _ _ _=> ?_
   (repeat'((conv=>whnf);first|refine Ac ?_|refine Af ?_|refine Av asP ?_|refine Aa hS Dc ?_|refine NIdx.tab (fun _=>rfl) g0 ?_|refine Aa hO Dc ?_|exact zE))
  have h1':=Decidable.not_not.1 h1
  cases h2:(Bh p).x.isB 0 6 false
  ·rw[if_pos (.inr rfl)]
   rw[h2] at hI
   generalize Bh p=r1 at hO h1' hI
   obtain⟨x1,c1,o1⟩:=r1
   simp only at h1'
   subst h1'
   refine acQ 62 Tryz.func102 rfl rfl fun _ _ _=> ?_
   (repeat'((conv=>whnf);first|refine Ac ?_|refine Af ?_|refine Aa hS Dc ?_|refine NIdx.tab (fun _=>rfl) g0 ?_|refine Aa hO Dc ?_|refine Aa hI rfl ?_|exact zE))
  ·rw[if_neg (by rintro(h|h);exact h1 h;cases h)]
   rw[h2] at hI
   have hb:=hF.1 h1'
   have hD:=N2 (p.drop (Bh p).x.body) (by rw[Az];omega)
   have hN:=yV q 0 (by omega)
   have hil:=Pi q 0
   have hC:=Fj (inn q 0) (by omega)
   rw[M6] at hD
   unfold inn at hC⊢
   generalize Bh p=r1 at hO h1' hI hb hD⊢
   obtain⟨x1,c1,o1⟩:=r1
   simp only at h1' hb hI hD⊢
   subst h1'
   generalize odT (p.drop x1.body)=ot at hD⊢
   generalize odC (p.drop x1.body)=oc at hD⊢
   cases hin:Cr q 0 with
   |none=>
    rw[hin] at hN hC
    have hC:Ab Tryz.prog 39 [.d (Ag false [])] (fun r=>r= .d (Ag true [])):=hC
    have hN:Ab Tryz.prog 135 [.d (Ag false q),iv 0] (fun r=>r= .tup [Bc,bv false]):=hN
    refine acQ 62 Tryz.func102 rfl rfl fun _ _ _=> ?_
    (repeat'((conv=>whnf);first|refine Af ?_|refine Aa hS Dc ?_|refine NIdx.tab (fun _=>rfl) g0 ?_|refine NIdx.tab (fun _=>rfl) g1 ?_|refine Aa hO Dc ?_|refine Aa hI rfl ?_|refine Gh (x1.body) ?_|refine Aa hD Dc ?_|refine Aa hN Dc ?_|refine Bj hC U6 ?_|refine zF ?_|exact zE))
   |some v=>
    rw[hin] at hN hC
    have hC:Ab Tryz.prog 39 [.d (Ag false v)] (fun r=>r= .d (Ag true v)):=hC
    have hN:Ab Tryz.prog 135 [.d (Ag false q),iv 0] (fun r=>r= .tup [.d (Ag false v),bv true]):=hN
    refine acQ 62 Tryz.func102 rfl rfl fun _ _ _=> ?_
    (repeat'((conv=>whnf);first|refine Ac ?_|refine Af ?_|refine Aa hS Dc ?_|refine NIdx.tab (fun _=>rfl) g0 ?_|refine NIdx.tab (fun _=>rfl) g1 ?_|refine Aa hO Dc ?_|refine Aa hI rfl ?_|refine Gh (x1.body) ?_|refine Aa hD Dc ?_|refine Aa hN Dc ?_|refine Aa hC Dc ?_|refine zF ?_|exact zE))
def pK (b:List UInt8):Int:=if F1 b=true then M8 b else 0
def pV (b:List UInt8):List UInt8:=if F1 b=true then Qi b else []
theorem Yo (b:List UInt8) (hb:b.length≤1000000):Ab Tryz.prog 138 [.d (Ag false b)] (fun r=>r= .tup [txA (pK b) (pV b),bv (F1 b)]):=by
 have h:=Vd b hb
 unfold DB at h
 unfold pK pV
 cases hd:F1 b
 all_goals
  rw[hd] at h
  exact h
def Ks (k:Int) (q:List UInt8) (ak:Int) (av:List UInt8):Gn×Bool:=(⟨k,[],[],[],[],ak,av,pK (inn q 1),pV (inn q 1)⟩,(Cr q 1).isSome&&F1 (inn q 1))
def Ka (k:Int) (c:List UInt8):Gn×Bool:=match Dm c with
 |[p,q]=>if(Cr p 0).isSome&&F1 (inn p 0) then Ks k q (pK (inn p 0)) (pV (inn p 0)) else(gz,false)
 |[q]=>Ks k q 0 []
 |_=>(gz,false)
theorem Fv {b v:List UInt8} {n:Nat} (h:Cr b n=some v):inn b n=v:=by unfold inn;rw[h];rfl
theorem Ui {b:List UInt8} {n:Nat} (h:Cr b n=none):inn b n=[]:=by unfold inn;rw[h];rfl
theorem Cb {p:Prop} (h:p:=by first|rfl|(simp only[AV.gives,AV.ren,AV.give,D.un,D.uns,Al,Ak,List.nil_append,List.append_nil,List.cons_append,As,A0,Bb,A5,A2,Ba,Bi,Dn,Cq];first|done|rfl)):p:=h
theorem tR (k:Int) (c:List UInt8) (hl:c.length≤800000):Ab Tryz.prog 106 [ptA k c] (fun r=>r=gbA (Ka k c)):=by
 have hS:=V4 c (by omega)
 have hm:=fun p=>N8 (c:=c) (p:=p)
 unfold Ka
 generalize Dm c=l at hS hm⊢
 match l with
 |[]=>
  refine acQ 69 Tryz.func106 rfl rfl fun _ _ _=> ?_
  (repeat'((conv=>whnf);first|refine Ac ?_|refine Af ?_|refine Aa hS Cb ?_|exact zE))
 |x::y::z::r=>
  refine acQ 69 Tryz.func106 rfl rfl fun _ _ _=> ?_
  (repeat'((conv=>whnf);first|refine Ac ?_|refine Af ?_|refine Aa hS Cb ?_|exact zE))
 |[q]=>
  have hq:=hm q (by simp)
  have g0:([q]:List (List UInt8))[0]?=some q:=rfl
  have hN:=yV q 1 (by omega)
  have hil:=Pi q 1
  have hD:=Yo (inn q 1) (by omega)
  show Ab _ _ _ (fun r=>r=gbA (Ks k q 0 []))
  unfold Ks
  cases hin:Cr q 1 with
  |none=>
   rw[hin] at hN
   rw[Ui hin] at hD⊢
   have hN:Ab Tryz.prog 135 [.d (Ag false q),iv 1] (fun r=>r= .tup [Bc,bv false]):=hN
   generalize pK []=K at hD⊢
   generalize pV []=V at hD⊢
   generalize F1 []=O at hD⊢
   refine acQ 69 Tryz.func106 rfl rfl fun _ _ _=> ?_
   (repeat'((conv=>whnf);first|refine Af ?_|refine Aa hS Cb ?_|refine NIdx.tab (fun _=>rfl) g0 ?_|refine Aa hN Cb ?_|refine Bj hD U6 ?_|exact zE))
  |some v=>
   rw[hin] at hN
   rw[Fv hin] at hD⊢
   have hN:Ab Tryz.prog 135 [.d (Ag false q),iv 1] (fun r=>r= .tup [.d (Ag false v),bv true]):=hN
   generalize pK v=K at hD⊢
   generalize pV v=V at hD⊢
   generalize F1 v=O at hD⊢
   refine acQ 69 Tryz.func106 rfl rfl fun _ _ _=> ?_
   (repeat'((conv=>whnf);first|refine Ac ?_|refine Af ?_|refine Aa hS Cb ?_|refine NIdx.tab (fun _=>rfl) g0 ?_|refine Aa hN Cb ?_|refine Aa hD Cb ?_|exact zE))
 |[p,q]=>
  have hp:=hm p (by simp)
  have hq:=hm q (by simp)
  have g0:([p,q]:List (List UInt8))[0]?=some p:=rfl
  have g1:([q]:List (List UInt8))[0]?=some q:=rfl
  have hN0:=yV p 0 (by omega)
  have hil0:=Pi p 0
  have hD0:=Yo (inn p 0) (by omega)
  have hN:=yV q 1 (by omega)
  have hil:=Pi q 1
  have hD:=Yo (inn q 1) (by omega)
  show Ab _ _ _ (fun r=>r=gbA (if(Cr p 0).isSome&&F1 (inn p 0) then Ks k q (pK (inn p 0)) (pV (inn p 0)) else(gz,false)))
  cases hin0:Cr p 0 with
  |none=>
   rw[hin0] at hN0
   rw[Ui hin0] at hD0
   have hN0:Ab Tryz.prog 135 [.d (Ag false p),iv 0] (fun r=>r= .tup [Bc,bv false]):=hN0
   rw[if_neg (by simp)]
   generalize pK []=K at hD0
   generalize pV []=V at hD0
   generalize F1 []=O at hD0
   refine acQ 69 Tryz.func106 rfl rfl fun _ _ _=> ?_
   (repeat'((conv=>whnf);first|refine Ac ?_|refine Aa hS Cb ?_|refine NIdx.tab (fun _=>rfl) g0 ?_|refine Aa hN0 Cb ?_|refine Bj hD0 U6 ?_|exact zE))
  |some v=>
   rw[hin0] at hN0
   rw[Fv hin0] at hD0⊢
   have hN0:Ab Tryz.prog 135 [.d (Ag false p),iv 0] (fun r=>r= .tup [.d (Ag false v),bv true]):=hN0
   cases hd0:F1 v
   ·rw[hd0] at hD0
    rw[if_neg (by simp)]
    refine acQ 69 Tryz.func106 rfl rfl fun _ _ _=> ?_
    (repeat'((conv=>whnf);first|refine Ac ?_|refine Af ?_|refine Aa hS Cb ?_|refine NIdx.tab (fun _=>rfl) g0 ?_|refine Aa hN0 Cb ?_|refine Aa hD0 Cb ?_|exact zE))
   rw[hd0] at hD0
   rw[if_pos (by rfl)]
   generalize pK v=K0 at hD0⊢
   generalize pV v=V0 at hD0⊢
   unfold Ks
   cases hin:Cr q 1 with
   |none=>
    rw[hin] at hN
    rw[Ui hin] at hD⊢
    have hN:Ab Tryz.prog 135 [.d (Ag false q),iv 1] (fun r=>r= .tup [Bc,bv false]):=hN
    generalize pK []=K at hD⊢
    generalize pV []=V at hD⊢
    generalize F1 []=O at hD⊢
    refine acQ 69 Tryz.func106 rfl rfl fun _ _ _=> ?_
    (repeat'((conv=>whnf);first|refine Ac ?_|refine Af ?_|refine Aa hS Cb ?_|refine NIdx.tab (fun _=>rfl) g0 ?_|refine Aa hN0 Cb ?_|refine Aa hD0 Cb ?_|refine NSl.tab (fun _=>rfl) 1 2 [q] rfl ?_|refine NIdx.tab (fun _=>rfl) g1 ?_|refine Aa hN Cb ?_|refine Bj hD U6 ?_|refine zF ?_|exact zE))
   |some v=>
    rw[hin] at hN
    rw[Fv hin] at hD⊢
    have hN:Ab Tryz.prog 135 [.d (Ag false q),iv 1] (fun r=>r= .tup [.d (Ag false v),bv true]):=hN
    generalize pK v=K at hD⊢
    generalize pV v=V at hD⊢
    generalize F1 v=O at hD⊢
    refine acQ 69 Tryz.func106 rfl rfl fun _ _ _=> ?_
    (repeat'((conv=>whnf);first|refine Ac ?_|refine Af ?_|refine Aa hS Cb ?_|refine NIdx.tab (fun _=>rfl) g0 ?_|refine Aa hN0 Cb ?_|refine Aa hD0 Cb ?_|refine NSl.tab (fun _=>rfl) 1 2 [q] rfl ?_|refine NIdx.tab (fun _=>rfl) g1 ?_|refine Aa hN Cb ?_|refine Aa hD Cb ?_|refine zF ?_|exact zE))
theorem Wp (b:List UInt8) (hb:b.length≤1000000000):Ab Tryz.prog 91 [.d (Ag false b)] (fun r=>r=bv (Ea b)):=by
 rw[R3]
 rcases Ud b hb with⟨h1,ta,tq,tm,tk,tl,tcs,hT⟩|⟨h1,hT⟩
 ·rw[h1]
  refine acQ 13 Tryz.func91 rfl rfl fun _ _ _=> ?_
  (repeat'((conv=>whnf);refine Aa hT Cb ?_));(all_goals(conv=>whnf))
  all_goals exact zE
 ·generalize L7 b=tO at hT
  generalize J8 b=tc at hT h1⊢
  have g1:((tc:Int)==0)=(tc==0):=Ft tc 0
  refine acQ 13 Tryz.func91 rfl rfl fun _ _ _=> ?_
  (repeat'((conv=>whnf);refine Aa hT Cb ?_));(all_goals(conv=>whnf))
  all_goals(refine A6 ?_;(repeat'(first|refine And.intro ?_ ?_|exact rfl));(all_goals(conv=>whnf)))
  all_goals exact g1
theorem I4 (n:Nat) (b:List UInt8) (hn:n≤30) (hb:b.length≤900000000):Ab Tryz.prog 92 [iv n,.d (Ag false b)] (fun r=>r= .tup [Be 0 5 (Ai 2 n true b),iv 0]):=by
 have hW:=Fl 2 n true b (by omega) hn hb
 refine acQ 12 Tryz.func92 rfl rfl fun _ _ _=> ?_
 (repeat'((conv=>whnf);refine Aa hW Cb ?_));(all_goals(conv=>whnf))
 all_goals exact zE
theorem jC (k:Int):(k=0∨k=1∨k=2∨k=3∨k=4∨k=5∨k=6∨k=7∨k=8)∨((k==0)=false∧(k==1)=false∧(k==2)=false∧(k==3)=false∧(k==4)=false∧(k==5)=false∧(k==6)=false∧(k==7)=false∧(k==8)=false):=by
 simp only[beq_eq_false_iff_ne];omega
def Dy (k:Int):Bool:=k==0||(k==3||(k==4||k==5))
theorem bR (k:Int):Ab Tryz.prog 71 [iv k] (fun r=>r=bv (Dy k)):=by
 rcases jC k with(h|h|h|h|h|h|h|h|h)|⟨h0,h1,h2,h3,h4,h5,h6,h7,h8⟩
 case inr=>
  rw[show Dy k=false by unfold Dy;rw[h0,h3,h4,h5];rfl]
  refine acQ 9 Tryz.func71 rfl rfl fun _ _ _=> ?_
  (repeat'((conv=>whnf);refine Ax asP ?_));(all_goals(conv=>whnf))
  all_goals exact zE
 all_goals
  subst h
  refine acQ 9 Tryz.func71 rfl rfl fun _ _ _=> ?_
  (repeat'((conv=>whnf);first|refine Ac ?_|refine Af ?_|exact zE))
def ip (n:Nat):Bool:=n==4||(n==8||(n==16||n==32))
def Ri (g:Gn):Bool:=if g.k=0 then Ea g.by' else if g.k=3 then Ea (Ai 2 3 true g.by') else if g.k=7 then ip g.by'.length else true
theorem Wq (g:Gn) (hb:g.by'.length≤100000000):Ab Tryz.prog 69 [gnA g] (fun r=>r=bv (Ri g)):=by
 obtain⟨k,oid,tx,by',nm,ak,av,pk,pv⟩:=g
 simp only at hb
 have hO:=Wp by' (by omega)
 have hX:=I4 3 by' (by omega) (by omega)
 have hle:=At 2 3 true by' (by omega)
 have hO3:=Wp (Ai 2 3 true by') (by omega)
 unfold Ri
 simp only
 rcases jC k with(h|h|h|h|h|h|h|h|h)|⟨h0,h1,h2,h3,h4,h5,h6,h7,h8⟩
 case inr=>
  rw[if_neg (by simpa using h0),if_neg (by simpa using h3),if_neg (by simpa using h7)]
  refine acQ 48 Tryz.func69 rfl rfl fun _ _ _=> ?_
  (repeat'((conv=>whnf);refine Ax asP ?_));(all_goals(conv=>whnf))
  all_goals exact zE
 case inl.inr.inr.inr.inr.inr.inr.inr.inl=>
  subst h
  rw[if_neg (by decide),if_neg (by decide),if_pos rfl]
  unfold ip
  have b1:=Ft by'.length 4
  have b2:=Ft by'.length 8
  have b3:=Ft by'.length 16
  have b4:=Ft by'.length 32
  generalize (by'.length==4)=c1 at b1⊢
  generalize (by'.length==8)=c2 at b2⊢
  generalize (by'.length==16)=c3 at b3⊢
  generalize (by'.length==32)=c4 at b4⊢
  cases c1<;>cases c2<;>cases c3<;>cases c4
  all_goals
   refine acQ 48 Tryz.func69 rfl rfl fun _ _ _=> ?_
   (repeat'((conv=>whnf);first|refine Ac ?_|refine Af ?_|refine Av asP ?_|refine Ax asP ?_));(all_goals(conv=>whnf))
   all_goals(refine A6 ?_;(repeat'(first|exact Ay _|refine And.intro ?_ ?_|exact rfl));(all_goals(conv=>whnf)))
   all_goals exact b4
 case inl.inl=>
  subst h
  rw[if_pos rfl]
  refine acQ 48 Tryz.func69 rfl rfl fun _ _ _=> ?_
  (repeat'((conv=>whnf);first|refine Ac ?_|refine Aa hO Cb ?_|exact zE))
 case inl.inr.inr.inr.inl=>
  subst h
  rw[if_neg (by decide),if_pos rfl]
  refine acQ 48 Tryz.func69 rfl rfl fun _ _ _=> ?_
  (repeat'((conv=>whnf);first|refine Ac ?_|refine Af ?_|refine Aa hX Cb ?_|refine Aa hO3 Cb ?_|exact zE))
 all_goals
  subst h
  rw[if_neg (by decide),if_neg (by decide),if_neg (by decide)]
  refine acQ 48 Tryz.func69 rfl rfl fun _ _ _=> ?_
  (repeat'((conv=>whnf);refine Af ?_));(all_goals(conv=>whnf))
  all_goals exact zE
def zT (k:Int) (l:List UInt8):Bool:=k==0&&l==[]
def alB (a b c d e:Bool) (g:Gn):Bool:=(a||g.oid==[])&&((b||g.tx==[])&&((c||(g.by'.length:Int)==0)&&((d||(g.nm.length:Int)==0)&&(e||(zT g.ak g.av&&zT g.pk g.pv)))))
def Cn (g:Gn):Bool:=alB (g.k==0||g.k==8) (g.k==1||(g.k==2||g.k==6)) (g.k==0||(g.k==3||g.k==7)) (g.k==4) (g.k==5) g
theorem nS (g:Gn):Ab Tryz.prog 68 [gnA g] (fun r=>r=bv (Cn g)):=by
 obtain⟨k,oid,tx,by',nm,ak,av,pk,pv⟩:=g
 unfold Cn alB zT
 simp only
 rcases jC k with(h|h|h|h|h|h|h|h|h)|⟨h0,h1,h2,h3,h4,h5,h6,h7,h8⟩
 case inr=>
  rw[h0,h1,h2,h3,h4,h5,h6,h7,h8]
  refine acQ 86 Tryz.func68 rfl rfl fun _ _ _=> ?_
  (repeat'((conv=>whnf);first|refine Ac ?_|refine Af ?_|refine Ax asP ?_|refine An (Dv rfl rfl (ltN rfl) rfl rfl) ?_|(refine Aj (fun hc hcP=> ?_) (fun hc hcP=> ?_)<;>try(exfalso;omega))|refine NBr.mk (fun hc=> ?_) (fun hc=> ?_)));(all_goals(conv=>whnf))
  all_goals(refine A6 ?_;(repeat'(first|refine And.intro ?_ ?_|exact rfl));(all_goals(conv=>whnf)))
  all_goals(simp_all)
 all_goals
  subst h
  refine acQ 86 Tryz.func68 rfl rfl fun _ _ _=> ?_
  (repeat'((conv=>whnf);first|refine Ac ?_|refine Af ?_|refine An (Dv rfl rfl (ltN rfl) rfl rfl) ?_|(refine Aj (fun hc hcP=> ?_) (fun hc hcP=> ?_)<;>try(exfalso;omega))|refine NBr.mk (fun hc=> ?_) (fun hc=> ?_)));(all_goals(conv=>whnf))
  all_goals(refine A6 ?_;(repeat'(first|refine And.intro ?_ ?_|exact rfl));(all_goals(conv=>whnf)))
  all_goals(simp_all)
def FT (a b:List UInt8):Nat→List UInt8
 |0=>[]
 |1=>a
 |_+2=>a++b
def L9 (g:Gn):Option (List UInt8):=
 if(zT g.ak g.av||Ao g.ak g.av)&&Ao g.pk g.pv then some ((if zT g.ak g.av then [] else Ai 2 0 true (txE g.ak g.av))++Ai 2 1 true (txE g.pk g.pv)) else none
def Ec (g:Gn):Option (List UInt8):=
 if g.k=0 then(if Es g.oid then some (Ai 0 6 false (Bm g.oid)++Ai 2 0 true g.by') else none)
 else if g.k=1∨g.k=2∨g.k=6 then(if Ao 22 g.tx then some (chS 22 g.tx) else none)
 else if g.k=3∨g.k=7 then some g.by'
 else if g.k=4 then(if nmV g.nm then some (nmE g.nm) else none)
 else if g.k=5 then L9 g
 else if g.k=8 then(if Es g.oid then some (Bm g.oid) else none)
 else none
def GJ:Option (List UInt8)→AV
 |some c=> .tup [.d (Ag false c),iv 0]
 |none=> .tup [.d (Ag false []),iv 8]
structure Gn.sm (g:Gn):Prop where
 o:g.oid.length≤3000000
 t:g.tx.length≤3000000
 b:g.by'.length≤3000000
 n:nmZ g.nm
 a:g.av.length≤3000000
 p:g.pv.length≤3000000
theorem Fx {k:Int} {l:List UInt8} (h:Ao k l=true) (hl:l.length≤3000000):(txE k l).length≤4*l.length+6:=by
 have h4:=F9 h
 have:=At 0 k.toNat false (chS k l) (by omega)
 unfold txE;omega
theorem BC {k:Int} {l:List UInt8} (hl:l.length≤3000000) (h:Ao k l=true):Ab Tryz.prog 96 [txA k l] (fun r=>r= .tup [Be 0 5 (txE k l),iv 0]):=by
 have:=L8 k l (by omega)
 rwa[frS,if_pos h] at this
theorem BD {k:Int} {l:List UInt8} (hl:l.length≤3000000) (h:Ao k l=false):Ab Tryz.prog 96 [txA k l] (fun r=>r= .tup [Bc,iv 8]):=by
 have:=L8 k l (by omega)
 rwa[frS,if_neg (by rw[h];simp)] at this
theorem R7 {s:List UInt8} (h:Es s=false):U9 s=8∧Bm s=[]:=by
 unfold Es at h;unfold U9 Bm
 cases ha:Ei s with
 |none=>exact⟨rfl,rfl⟩
 |some a=>rw[ha] at h;cases h
theorem Kt {p:Prop} (h:p:=by first|rfl|(simp only[AV.gives,AV.ren,AV.give,D.un,D.uns,Al,Ak,List.nil_append,List.append_nil,List.cons_append,As,A0,Bb,A5,A2,Ba,Bi,Dn,Cq];first|done|rfl)):p:=h
theorem Yp (g:Gn) (hs:g.sm):Ab Tryz.prog 70 [gnA g] (fun r=>r=GJ (Ec g)):=by
 obtain⟨k,oid,tx,by',nm,ak,av,pk,pv⟩:=g
 obtain⟨s1,s2,s3,s4,s5,s6⟩:=hs
 simp only at s1 s2 s3 s4 s5 s6
 have k1:=Ex oid
 have hE:=T1 oid (by omega)
 have hW:=Fl 0 6 false (Bm oid) (by omega) (by omega) (by omega)
 have hX:=I4 0 by' (by omega) (by omega)
 have hle:=At 2 0 true by' (by omega)
 have hlo:=At 0 6 false (Bm oid) (by omega)
 have hCo:=Nz [Ai 0 6 false (Bm oid),Ai 2 0 true by'] (by simp;omega) (by simp)
 rw[show [Ai 0 6 false (Bm oid),Ai 2 0 true by'].flatten=Ai 0 6 false (Bm oid)++Ai 2 0 true by' by simp] at hCo
 have hT:Ab Tryz.prog 94 [.agg [iv 22,.d (.v (.string ⟨⟨tx⟩⟩))]] (fun r=>r= .tup [.d (Ag true (Eb 22 tx)),iv (Hi 22 tx)]):=Kp 22 tx (by omega)
 have hN:=nQ nm s4
 unfold Ec
 simp only
 rcases jC k with(h|h|h|h|h|h|h|h|h)|⟨h0,h1,h2,h3,h4,h5,h6,h7,h8⟩
 case inr=>
  have e:¬k=0∧¬(k=1∨k=2∨k=6)∧¬(k=3∨k=7)∧¬k=4∧¬k=5∧¬k=8:=by
   simp only[beq_eq_false_iff_ne] at h0 h1 h2 h3 h4 h5 h6 h7 h8;omega
  rw[if_neg e.1,if_neg e.2.1,if_neg e.2.2.1,if_neg e.2.2.2.1,if_neg e.2.2.2.2.1,if_neg e.2.2.2.2.2]
  show Ab _ _ _ (fun r=>r= .tup [.d (Ag false []),iv 8])
  refine acQ 118 Tryz.func70 rfl rfl fun _ _ _=> ?_
  (repeat'((conv=>whnf);refine Ax asP ?_));(all_goals(conv=>whnf))
  all_goals exact zE
 case inl.inl=>
  subst h
  rw[if_pos rfl]
  cases ho:Es oid
  ·rw[(R7 ho).1,(R7 ho).2] at hE
   show Ab _ _ _ (fun r=>r= .tup [.d (Ag false []),iv 8])
   refine acQ 118 Tryz.func70 rfl rfl fun _ _ _=> ?_
   (repeat'((conv=>whnf);first|refine Ac ?_|refine Aa hE rfl ?_|exact zE))
  ·rw[(Qb oid).1 ho] at hE
   show Ab _ _ _ (fun r=>r= .tup [.d (Ag false (Ai 0 6 false (Bm oid)++Ai 2 0 true by')),iv 0])
   refine acQ 118 Tryz.func70 rfl rfl fun _ _ _=> ?_
   (repeat'((conv=>whnf);first|refine Ac ?_|refine Af ?_|refine Aa hE rfl ?_|refine Aa hW Kt ?_|refine Aa hX Kt ?_|refine Aa hCo Kt ?_|exact zE))
 case inl.inr.inr.inr.inr.inl=>
  subst h
  rw[if_neg (by decide),if_neg (by decide),if_neg (by decide),if_pos rfl]
  cases ho:nmV nm
  ·rw[if_neg (by rw[ho];simp)] at hN
   show Ab _ _ _ (fun r=>r= .tup [.d (Ag false []),iv 8])
   refine acQ 118 Tryz.func70 rfl rfl fun _ _ _=> ?_
   (repeat'((conv=>whnf);first|refine Ac ?_|refine Af ?_|refine Aa hN Kt ?_|exact zE))
  ·rw[if_pos ho] at hN
   show Ab _ _ _ (fun r=>r= .tup [.d (Ag false (nmE nm)),iv 0])
   refine acQ 118 Tryz.func70 rfl rfl fun _ _ _=> ?_
   (repeat'((conv=>whnf);first|refine Ac ?_|refine Af ?_|refine Aa hN Kt ?_|exact zE))
 case inl.inr.inr.inr.inr.inr.inl=>
  subst h
  rw[if_neg (by decide),if_neg (by decide),if_neg (by decide),if_neg (by decide),if_pos rfl]
  unfold L9
  simp only
  generalize hz:zT ak av=z
  have gz':(ak==0&&av==[])=z:=hz
  generalize hpre:(if z=true then [] else Ai 2 0 true (txE ak av))=pre
  have hprel:(z||Ao ak av)=true→pre.length≤13000000:=fun h=>by
   cases z
   ·rw[Bool.false_or] at h
    have h1:=Fx h s5
    have h2:=At 2 0 true (txE ak av) (by omega)
    rw[←hpre,if_neg (by simp)];omega
   ·rw[←hpre,if_pos rfl];simp
  refine acQ 118 Tryz.func70 rfl rfl fun _ _ _=> ?_
  (repeat'((conv=>whnf);first|refine Ac ?_|refine Af ?_));(all_goals(conv=>whnf))
  refine Bg [.s 8 1 5] (fun i:Nat=>i≤2∧(1≤i→(z||Ao ak av)=true)∧(2≤i→Ao pk pv=true)) (fun i=>2-i) (fun i=>⟨[(1,.ptr 1 0),(8,Be 8 5 (FT pre (Ai 2 1 true (txE pk pv)) i)),(15,iv 5),(75,.d (.sl false 2 2 [iD ak,sD av,iD pk,sD pv])),(76,iv 2),(77,iv i)],[(1,[iv 5,.d (sD oid),.d (sD tx),.d (Ag false by'),.d (Gs nm),iv ak,.d (sD av),iv pk,.d (sD pv)])],[(8,((FT pre (Ai 2 1 true (txE pk pv)) i).length,1,5))]⟩) 0 ⟨by omega,by omega,by omega⟩ leQ ?_
  rintro i ⟨hi,hA,hP⟩
  match i,hi with
  |0,_=>
   cases z
   ·cases ha:Ao ak av
    ·have hF:=BD s5 ha
     rw[show((false||false)&&Ao pk pv)=false by rfl,if_neg (by simp)]
     (repeat'((conv=>whnf);first|refine Ac ?_|refine Ax asP ?_|refine Ov 0 ?_|refine An (Dv rfl rfl (ltN rfl) rfl rfl) ?_|refine Aa hF rfl ?_|exact zE))
    ·have hF:=BC s5 ha
     have h1:=Fx ha s5
     have hX:=I4 0 (txE ak av) (by omega) (by omega)
     have h2:=At 2 0 true (txE ak av) (by omega)
     rw[if_neg (by simp)] at hpre
     rw[←hpre]
     (repeat'((conv=>whnf);first|refine Ac ?_|refine Af ?_|refine Ax asP ?_|refine Ov 0 ?_|refine An (Dv rfl rfl (ltN rfl) rfl rfl) ?_|refine Aa hF rfl ?_|refine Aa hX Kt ?_|(refine NApp.bytes ?_ (by show([]:List UInt8).length+_≤_;simp only[List.length_nil];omega))|(with_reducible refine NInt.i64 ?_)));(all_goals(conv=>whnf))
     refine⟨1,⟨by omega,fun _=>rfl,by omega⟩,by omega,?_⟩
     exact leQ
   ·rw[if_pos rfl] at hpre
    rw[←hpre]
    (repeat'((conv=>whnf);first|refine Ac ?_|refine Av asP ?_|refine Ov 0 ?_|refine An (Dv rfl rfl (ltN rfl) rfl rfl) ?_|(with_reducible refine NInt.i64 ?_)));(all_goals(conv=>whnf))
    refine⟨1,⟨by omega,fun _=>rfl,by omega⟩,by omega,?_⟩
    exact leQ
  |1,_=>
   have hA:=hA (by omega)
   have hpl:=hprel hA
   cases hp:Ao pk pv
   ·have hF:=BD s6 hp
    rw[Bool.and_false,if_neg (by simp)]
    (repeat'((conv=>whnf);first|refine Ac ?_|refine Af ?_|refine Ov 1 ?_|refine Aa hF rfl ?_|exact zE))
   ·have hF:=BC s6 hp
    have h1:=Fx hp s6
    have hX:=I4 1 (txE pk pv) (by omega) (by omega)
    have h2:=At 2 1 true (txE pk pv) (by omega)
    (repeat'((conv=>whnf);first|refine Ac ?_|refine Af ?_|refine Ov 1 ?_|refine Aa hF rfl ?_|refine Aa hX Kt ?_|(refine NApp.bytes ?_ (by show pre.length+_≤_;omega))|(with_reducible refine NInt.i64 ?_)));(all_goals(conv=>whnf))
    refine⟨2,⟨by omega,fun _=>hA,fun _=>rfl⟩,by omega,?_⟩
    exact leQ
  |2,_=>
   rw[hA (by omega),hP (by omega)]
   (repeat'((conv=>whnf);refine Af ?_));(all_goals(conv=>whnf))
   all_goals exact zE
 case inl.inr.inr.inr.inr.inr.inr.inr.inr=>
  subst h
  rw[if_neg (by decide),if_neg (by decide),if_neg (by decide),if_neg (by decide),if_neg (by decide),if_pos rfl]
  cases ho:Es oid
  ·rw[(R7 ho).1,(R7 ho).2] at hE
   show Ab _ _ _ (fun r=>r= .tup [.d (Ag false []),iv 8])
   refine acQ 118 Tryz.func70 rfl rfl fun _ _ _=> ?_
   (repeat'((conv=>whnf);first|refine Ac ?_|refine Af ?_|refine Aa hE rfl ?_|exact zE))
  ·rw[(Qb oid).1 ho] at hE
   show Ab _ _ _ (fun r=>r= .tup [.d (Ag false (Bm oid)),iv 0])
   refine acQ 118 Tryz.func70 rfl rfl fun _ _ _=> ?_
   (repeat'((conv=>whnf);first|refine Ac ?_|refine Af ?_|refine Aa hE rfl ?_|exact zE))
 case inl.inr.inr.inr.inl=>
  subst h
  rw[if_neg (by decide),if_neg (by decide),if_pos (by decide)]
  show Ab _ _ _ (fun r=>r= .tup [.d (Ag false by'),iv 0])
  refine acQ 118 Tryz.func70 rfl rfl fun _ _ _=> ?_
  (repeat'((conv=>whnf);first|refine Ac ?_|refine Af ?_|exact zE))
 case inl.inr.inr.inr.inr.inr.inr.inr.inl=>
  subst h
  rw[if_neg (by decide),if_neg (by decide),if_pos (by decide)]
  show Ab _ _ _ (fun r=>r= .tup [.d (Ag false by'),iv 0])
  refine acQ 118 Tryz.func70 rfl rfl fun _ _ _=> ?_
  (repeat'((conv=>whnf);first|refine Ac ?_|refine Af ?_|exact zE))
 all_goals
  subst h
  rw[if_neg (by decide),if_pos (by decide)]
  unfold Eb Hi at hT
  cases hv:Ao 22 tx
  ·rw[hv] at hT
   show Ab _ _ _ (fun r=>r= .tup [.d (Ag false []),iv 8])
   refine acQ 118 Tryz.func70 rfl rfl fun _ _ _=> ?_
   (repeat'((conv=>whnf);first|refine Ac ?_|refine Af ?_|refine Aa hT rfl ?_|exact zE))
  ·rw[hv] at hT
   show Ab _ _ _ (fun r=>r= .tup [.d (Ag false (chS 22 tx)),iv 0])
   refine acQ 118 Tryz.func70 rfl rfl fun _ _ _=> ?_
   (repeat'((conv=>whnf);first|refine Ac ?_|refine Af ?_|refine Aa hT rfl ?_|exact zE))
end Go.Proofs.YtgamacmidohpfaaGreatDoor
