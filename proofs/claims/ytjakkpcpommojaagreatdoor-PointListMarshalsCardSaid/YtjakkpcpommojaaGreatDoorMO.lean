/- MO: the texts Att Att2 Dn Dn2 GenP GenQ GenC, one behind the other. No condition but what each lemma says. -/
import Derived.Test.YtjakkpcpommojaaGreatDoorME
import Derived.Test.YtjakkpcpommojaaGreatDoorMM
import Derived.Test.YtjakkpcpommojaaGreatDoorMI
import Derived.Test.YtjakkpcpommojaaGreatDoorMJ
set_option maxRecDepth 100000
set_option maxHeartbeats 16000000
namespace Go.Proofs.YtjakkpcpommojaaGreatDoor
open Go.RowKit
def Ke (b:List UInt8):Nat:=(Ee b).code
def L4 (b:List UInt8):Nat:=(Ee b).off
theorem dY (b:List UInt8):L4 b≤b.length:=by
 have hF:=Ga b 16 b.length (by omega) 0 (by omega)
 dsimp only at hF
 unfold L4 Ee
 generalize Bo b 16 0 b.length=r at hF
 by_cases h:r.code=0
 ·obtain⟨s,rfl,h1,h2⟩:=hF.1 h
  by_cases h3:s.stop<b.length
  ·rw[Hk h3];exact h2
  ·rw[Kb h3];exact Nat.zero_le _
 ·obtain⟨h1,h2⟩:=hF.2 h
  obtain⟨l,c,o⟩:=r
  have hl:l=[]:=h2
  subst hl
  rw[Im];exact h1
theorem Uo (b:List UInt8) (hb:b.length≤1000000000):(Ke b=0∧∃(a q m:Nat) (k:Bool) (l:List UInt8) (cs:List D),Ab Tryz.prog 144 [.d (Ag false b)] (fun r=>r= .tup [.agg [iv a,iv q,bv k,.d (Ag true l),.d (.sl true m 5 cs)],erA 0 0]))∨
 (Ke b≠0∧Ab Tryz.prog 144 [.d (Ag false b)] (fun r=>r= .tup [.agg [iv 0,iv 0,bv false,Ax,Ax],erA (Ke b) (L4 b)])):=by
 have hP:=rN b hb
 unfold Ke L4
 rcases rQ b with⟨s,h⟩|⟨c,o,hc0,h⟩
 ·rw[h] at hP⊢
  obtain⟨a,q,c,n,k,b',ks⟩:=s
  exact .inl ⟨rfl,c,n,ks.length,k,b',Jn true ks,hP⟩
 ·rw[h] at hP⊢
  refine .inr ⟨hc0,?_⟩
  cases c with
  |zero=>exact absurd rfl hc0
  |succ c=>exact hP
def Up (b:List UInt8):List UInt8:=(b.drop (A8 b).x.body).take ((A8 b).x.stop-(A8 b).x.body)
def Rr (b:List UInt8):Bool:=(A8 b).code==0&&((A8 b).x.c==0&& !(A8 b).x.k)
def M7 (b:List UInt8):Int:=if Rr b then Jc (A8 b).x.n (Up b) else 0
def Qt (b:List UInt8):List UInt8:=if Rr b then Eo (A8 b).x.n (Up b) else []
def Zv (b:List UInt8):Bool:=Rr b&&Fi (A8 b).x.n (Up b)==0
theorem xN (b:List UInt8):(Up b).length≤b.length:=by
 unfold Up;rw[List.length_take,List.length_drop];omega
theorem Ku {p:Prop} (h:p:=by first|rfl|(simp only[AV.gives,AV.ren,AV.give,D.un,D.uns,Aj,Ak,List.nil_append,List.append_nil,List.cons_append,Ap,Du,Dv,A7,Ay,Bs];first|done|rfl)):p:=h
theorem Zw (b:List UInt8) (hb:b.length≤1000000):Ab Tryz.prog 203 [.d (Ag false b)] (fun r=>r= .tup [txA (M7 b) (Qt b),bv (Zv b)]):=by
 have hO:=Kp b (by omega)
 have hF:=Dm b
 have hD:=O5 (A8 b).x.n (Up b) (by have:=xN b;omega)
 unfold M7 Qt Zv
 have gs:Rr b=((A8 b).code==0&&((A8 b).x.c==0&& !(A8 b).x.k)):=rfl
 unfold Up at hD⊢
 generalize Rr b=q at gs⊢
 generalize A8 b=r at hO hF hD gs⊢
 obtain⟨⟨c,n,k,p,body,stop⟩,cd,of⟩:=r
 simp only at hF hD gs⊢
 by_cases h1:cd=0
 case neg=>
  have g1:((cd:Int) !=0)=true:=by rw[bne_iff_ne];omega
  have gq:q=false:=by rw[gs,show(cd==0)=false by rw[beq_eq_false_iff_ne];exact h1];rfl
  subst gq
  refine acQ 41 Tryz.func203 rfl rfl fun _ _ _=> ?_
  (repeat'((conv=>whnf);first|refine Ac ?_|refine At asP ?_|refine Aa hO Ku ?_|exact zE))
 subst h1
 by_cases h2:c=0
 case neg=>
  have g1:((c:Int) !=0)=true:=by rw[bne_iff_ne];omega
  have gq:q=false:=by rw[gs,show(c==0)=false by rw[beq_eq_false_iff_ne];exact h2];rfl
  subst gq
  refine acQ 41 Tryz.func203 rfl rfl fun _ _ _=> ?_
  (repeat'((conv=>whnf);first|refine Ac ?_|refine Ae ?_|refine At asP ?_|refine Aa hO Ku ?_|exact zE))
 subst h2
 cases k
 ·have gq:q=true:=gs
  subst gq
  generalize Jc n ((b.drop body).take (stop-body))=K at hD⊢
  generalize Eo n ((b.drop body).take (stop-body))=V at hD⊢
  generalize Fi n ((b.drop body).take (stop-body))=Z at hD⊢
  refine acQ 41 Tryz.func203 rfl rfl fun _ _ _=> ?_
  (repeat'((conv=>whnf);first|refine Ae ?_|refine Aa hO Ku ?_|refine NSl.slice (body) (stop) ?_|refine Aa hD Ku ?_|refine zF ?_|exact zE))
 ·have gq:q=false:=gs
  subst gq
  refine acQ 41 Tryz.func203 rfl rfl fun _ _ _=> ?_
  (repeat'((conv=>whnf);first|refine Ac ?_|refine Ae ?_|refine Aa hO Ku ?_|exact zE))
def txE (k:Int) (l:List UInt8):List UInt8:=Ah 0 k.toNat false (chS k l)
def frS (k:Int) (l:List UInt8):AV:=if Al k l=true then .tup [A4 0 5 (txE k l),iv 0] else .tup [Ax,iv 8]
theorem Uq {k:Int} {l:List UInt8} (h:Al k l=true):∃n:Nat,12≤n∧n≤30∧k=n:=by
 have hk:¬Ao k<0:=fun hw=>by rw[Ll hw] at h;cases h
 rcases Df k hk with h|h|h|h|h|h|h<;>exact⟨k.toNat,by omega,by omega,by omega⟩
theorem G7 {k:Int} {l:List UInt8} (h:Al k l=true):(chS k l).length≤4*l.length:=by
 have hv:Go.Lib.validD l=true:=by unfold Al at h;simp at h;exact h.1.1
 rw[←P5 h]
 have hl:(rns l).length≤l.length:=by
  have:=congrArg List.length (Ib l hv)
  have h1:∀q:List Nat,q.length≤(q.flatMap enc).length:=by
   intro q
   induction q with
   |nil=>simp
   |cons a r ih=>rw[List.flatMap_cons,List.length_append,List.length_cons];have:=(Fu a).1;omega
  have:=h1 (rns l)
  omega
 have hw:Ao k≤4:=by unfold Ao;(repeat' split)<;>omega
 have h2:∀q:List Nat,(q.flatMap (Jt (Ao k))).length≤4*q.length:=by
  intro q
  induction q with
  |nil=>simp
  |cons a r ih=>rw[List.flatMap_cons,List.length_append,List.length_cons];have:=Sw (Ao k) a hw;omega
 have:=h2 (rns l)
 omega
theorem L5 (k:Int) (l:List UInt8) (hl:l.length≤16777216):Ab Tryz.prog 124 [txA k l] (fun r=>r=frS k l):=by
 have hE:=O4 k l (by omega)
 unfold frS
 unfold Gh Nk at hE
 by_cases hv:Al k l=true
 ·rw[if_pos hv]
  rw[if_pos hv,if_pos hv] at hE
  obtain⟨n,n1,n2,rfl⟩:=Uq hv
  have h4:=G7 hv
  have hW:=Dk 0 n false (chS (n:Int) l) (by omega) n2 (by omega)
  have e:txE (n:Int) l=Ah 0 n false (chS (n:Int) l):=by unfold txE;rw[Int.toNat_natCast]
  rw[e]
  refine acQ 20 Tryz.func124 rfl rfl fun _ _ _=> ?_
  (repeat'((conv=>whnf);first|refine Ae ?_|refine Aa hE rfl ?_|refine Aa hW Ku ?_|exact zE))
 ·rw[if_neg hv]
  rw[if_neg hv,if_neg hv] at hE
  refine acQ 20 Tryz.func124 rfl rfl fun _ _ _=> ?_
  (repeat'((conv=>whnf);first|refine Ac ?_|refine Aa hE rfl ?_|exact zE))
theorem xO (k:Int):Ab Tryz.prog 204 [iv k] (fun r=>r=bv (k==22||k==26)):=by
 refine acQ 9 Tryz.func204 rfl rfl fun _ _ _=> ?_
 (repeat'((conv=>whnf);first|refine Ac ?_|refine Ae ?_|(refine Ai (fun hc hcP=> ?_) (fun hc hcP=> ?_)<;>try(exfalso;omega))));(all_goals(conv=>whnf))
 all_goals(refine Az ?_;(repeat'(first|refine And.intro ?_ ?_|exact rfl));(all_goals(conv=>whnf)))
 all_goals(simp_all)
def Fx (b:List UInt8):Bool:=Zv b&&(!(Qt b==[])&& !(M7 b==22||M7 b==26))
def IX (b:List UInt8):AV:=if Fx b=true then .tup [txA (M7 b) (Qt b),bv true] else .tup [txA 0 [],bv false]
theorem V8 (b:List UInt8) (hb:b.length≤1000000):Ab Tryz.prog 187 [.d (Ag false b)] (fun r=>r=IX b):=by
 have hS:=Zw b hb
 have h1:=xO (M7 b)
 unfold IX
 have gs:Fx b=(Zv b&&(!(Qt b==[])&& !(M7 b==22||M7 b==26))):=rfl
 generalize Fx b=q at gs⊢
 generalize M7 b=K at hS h1 gs⊢
 generalize Qt b=V at hS gs⊢
 generalize Zv b=Z at hS gs
 generalize (K==22||K==26)=O at h1 gs
 cases Z
 ·subst gs
  refine acQ 27 Tryz.func187 rfl rfl fun _ _ _=> ?_
  (repeat'((conv=>whnf);first|refine Ac ?_|refine Aa hS Ku ?_|exact zE))
 ·cases hv:(V==[])
  ·rw[hv] at gs
   cases O
   all_goals
    subst gs
    refine acQ 27 Tryz.func187 rfl rfl fun _ _ _=> ?_
    (repeat'((conv=>whnf);first|refine Ac ?_|refine Ae ?_|refine Av asP ?_|refine Aa hS Ku ?_|refine Aa h1 rfl ?_|exact zE))
  ·rw[hv] at gs
   subst gs
   refine acQ 27 Tryz.func187 rfl rfl fun _ _ _=> ?_
   (repeat'((conv=>whnf);first|refine Ac ?_|refine Ae ?_|refine At asP ?_|refine Aa hS Ku ?_|exact zE))
def atV (a:Att):Bool:=Ej a.oid&&Es a.val
theorem Si (b:List UInt8):Es b=(Ke b==0):=rfl
theorem C0 {p:Prop} (h:p:=by first|rfl|(simp only[AV.gives,AV.ren,AV.give,D.un,D.uns,Aj,Ak,List.nil_append,List.append_nil,List.cons_append,Ap,Du,Dv,A7,Ay,Bs];first|done|rfl)):p:=h
theorem dZ (a:Att) (ho:a.oid.length≤4000000) (hv:a.val.length≤1000000000):Ab Tryz.prog 117 [atA a] (fun r=>r=bv (atV a)):=by
 have hV:=Zi a.oid ho
 unfold atV
 rw[Si]
 generalize Ej a.oid=V at hV⊢
 rcases Uo a.val hv with⟨h1,ta,tq,tm,tk,tl,tcs,hT⟩|⟨h1,hT⟩
 ·rw[h1]
  cases V
  all_goals
   refine acQ 19 Tryz.func117 rfl rfl fun _ _ _=> ?_
   (repeat'((conv=>whnf);first|refine Ac ?_|refine Ae ?_|refine Aa hT C0 ?_|refine Aa hV rfl ?_|exact zE))
 ·generalize L4 a.val=tO at hT
  generalize Ke a.val=tc at hT h1⊢
  have g1:((tc:Int)==0)=false:=by rw[beq_eq_false_iff_ne];omega
  have g2:(tc==0)=false:=by rw[beq_eq_false_iff_ne];exact h1
  cases V
  all_goals
   refine acQ 19 Tryz.func117 rfl rfl fun _ _ _=> ?_
   (repeat'((conv=>whnf);first|refine Ac ?_|refine Ae ?_|refine Aa hT C0 ?_|refine Aa hV rfl ?_));(all_goals(conv=>whnf))
   all_goals(refine Az ?_;(repeat'(first|exact By _|refine And.intro ?_ ?_|exact rfl));(all_goals(conv=>whnf)))
  all_goals(rw[g1,g2];try rfl)
def atE (a:Att):List UInt8:=Ah 0 16 true (Ah 0 6 false (Bm a.oid)++a.val)
theorem Zx {a:Att} (h:atV a=true):Ej a.oid=true∧Es a.val=true:=by
 unfold atV at h;simpa using h
theorem V9 (a:Att) (ho:a.oid.length≤4000000) (hv:a.val.length≤100000000):Ab Tryz.prog 85 [atA a] (fun r=>r=if atV a=true then .tup [A4 0 5 (atE a),iv 0] else .tup [Ax,iv 8]):=by
 have hV:=dZ a ho (by omega)
 by_cases h:atV a=true
 ·rw[if_pos h]
  rw[h] at hV
  have hE:=Ue a.oid ho
  rw[(Qm a.oid).1 (Zx h).1] at hE
  have k1:=Fs a.oid
  have hW:=Dk 0 6 false (Bm a.oid) (by omega) (by omega) (by omega)
  have k2:=Aq 0 6 false (Bm a.oid) (by omega)
  have hQ:=Mm [Ah 0 6 false (Bm a.oid),a.val] (by simp;omega) (by simp)
  rw[show Ah 0 16 true [Ah 0 6 false (Bm a.oid),a.val].flatten=atE a by simp[atE]] at hQ
  refine acQ 35 Tryz.func85 rfl rfl fun _ _ _=> ?_
  (repeat'((conv=>whnf);first|refine Ae ?_|refine Aa hV C0 ?_|refine Aa hE rfl ?_|refine Aa hW C0 ?_|refine Aa hQ C0 ?_|exact zE))
 ·rw[if_neg h]
  rw[show atV a=false by simpa using h] at hV
  refine acQ 35 Tryz.func85 rfl rfl fun _ _ _=> ?_
  (repeat'((conv=>whnf);first|refine Ac ?_|refine Aa hV C0 ?_|exact zE))
def atO (b:List UInt8):Option Att:=match dW b with
 |some (id,s)=>if Es s=true then some ⟨id,s⟩ else none
 |none=>none
def Ur (b:List UInt8) (r:LR):Nat×Nat:=if r.code≠0 then(r.code,r.off) else match r.l with
 |[x,y]=>if x.isB 0 6 false=false then(3,x.at') else if odC (bod b x)≠0 then(odC (bod b x),x.body) else(Ke (elO b y),y.at'+L4 (elO b y))
 |_::_::z::_=>(2,z.at')
 |_=>(1,b.length)
def atU (a:Att):List D:=[sD a.oid,Ag true a.val]
def atR (o:Option Att) (e:Nat×Nat):AV:=match o with
 |some a=> .tup [.agg [sx a.oid,.d (Ag true a.val)],erA 0 0]
 |none=> .tup [.agg [sx [],Ax],erA e.1 e.2]
theorem Fy (c o:Int):Ab Tryz.prog 163 [iv c,iv o] (fun r=>r= .tup [.agg [sx [],Ax],.agg [iv c,iv o]]):=by
 refine acQ 10 Tryz.func163 rfl rfl fun _ _ _=> ?_
 (all_goals(conv=>whnf))
 all_goals exact zE
theorem eA (b:List UInt8) (hb:b.length≤800000):Ab Tryz.prog 138 [.d (Ag false b)] (fun r=>r=atR (atO b) (Ur b (Aw b 0 16))):=by
 have hP:=H7 b 0 16 (by omega)
 have hin:=fun x=>Ds (b:=b) (c:=0) (n:=16) (x:=x)
 have hO:atO b=match dV b (Aw b 0 16) with
  |some (id,s)=>if Es s=true then some ⟨id,s⟩ else none
  |none=>none:=rfl
 generalize Aw b 0 16=r at hP hin hO⊢
 by_cases h1:r.code≠0
 ·rw[Zt (.inl h1)] at hO
  rw[hO]
  have hF:=Fy r.code r.off
  rw[lrA,if_pos h1] at hP
  have gc:((r.code:Int) !=0)=true:=by rw[bne_iff_ne];omega
  rw[Ur,if_pos h1]
  generalize r.code=c at hP gc hF
  generalize r.off=o at hP hF
  refine acQ 127 Tryz.func138 rfl rfl fun _ _ _=> ?_
  (repeat'((conv=>whnf);first|refine At asP ?_|refine Aa hP C0 ?_|refine Aa hF rfl ?_|exact zE))
 rw[lrA,if_neg h1] at hP
 rw[Ur,if_neg h1]
 obtain⟨l,c,o⟩:=r
 obtain rfl:c=0:=Decidable.not_not.1 h1
 match l with
 |[]=>
  have e:atO b=none:=hO
  rw[e]
  have hF:=Fy 1 b.length
  refine acQ 127 Tryz.func138 rfl rfl fun _ _ _=> ?_
  (repeat'((conv=>whnf);first|refine Ac ?_|refine Ae ?_|refine Aa hP C0 ?_|refine Aa hF rfl ?_|exact zE))
 |[x]=>
  have e:atO b=none:=hO
  rw[e]
  have hF:=Fy 1 b.length
  refine acQ 127 Tryz.func138 rfl rfl fun _ _ _=> ?_
  (repeat'((conv=>whnf);first|refine Ac ?_|refine Ae ?_|refine Aa hP C0 ?_|refine Aa hF rfl ?_|exact zE))
 |x::y::z::q=>
  have e:atO b=none:=hO
  rw[e]
  have hF:=Fy 2 z.at'
  have g2:(x::y::z::q:List El)[2]?=some z:=rfl
  refine acQ 127 Tryz.func138 rfl rfl fun _ _ _=> ?_
  (repeat'((conv=>whnf);first|refine Ae ?_|refine Aa hP C0 ?_|refine NIdx.tab (fun _=>rfl) g2 ?_|refine Aa hF rfl ?_|(refine NBr.mk (fun hc=> ?_) (fun hc=> ?_)<;>(have hcP:=hc;(try simp only[List.length_cons,decide_eq_true_eq,decide_eq_false_iff_not] at hcP)<;>first|(exfalso;omega)|skip))|exact zE))
 |[x,y]=>
  obtain⟨x1,x2,x3⟩:=hin x (by simp)
  obtain⟨y1,y2,y3⟩:=hin y (by simp)
  have hI:=Qg x 0 6 false
  have hlb:(bod b x).length≤b.length:=by unfold bod;rw[List.length_take,List.length_drop];omega
  have hly:(elO b y).length≤b.length:=by unfold elO;rw[List.length_take,List.length_drop];omega
  have hD:=N5 (bod b x) (by omega)
  have hC:=J4 (elO b y) (by omega)
  have hT:=Uo (elO b y) (by omega)
  have hto:=dY (elO b y)
  have hop:=Si (elO b y)
  have g0:([x,y]:List El)[0]?=some x:=rfl
  have g1:([x,y]:List El)[1]?=some y:=rfl
  have hO':atO b=match(if x.isB 0 6 false=true∧odC (bod b x)=0 then some (odT (bod b x),elO b y) else none:Option (List UInt8×List UInt8)) with
   |some (id,s)=>if Es s=true then some ⟨id,s⟩ else none
   |none=>none:=hO
  show Ab _ _ _ (fun r=>r=atR (atO b) (if x.isB 0 6 false=false then(3,x.at') else if odC (bod b x)≠0 then(odC (bod b x),x.body) else(Ke (elO b y),y.at'+L4 (elO b y))))
  cases hi:x.isB 0 6 false
  ·rw[hi] at hI hO'
   rw[if_neg (by simp)] at hO'
   rw[hO',if_pos rfl]
   have hF:=Fy 3 x.at'
   refine acQ 127 Tryz.func138 rfl rfl fun _ _ _=> ?_
   (repeat'((conv=>whnf);first|refine Ac ?_|refine Ae ?_|refine Aa hP C0 ?_|refine NIdx.tab (fun _=>rfl) g0 ?_|refine Aa hI rfl ?_|refine Aa hF rfl ?_|exact zE))
  rw[hi] at hI hO'
  rw[if_neg (by simp)]
  by_cases h3:odC (bod b x)=0
  ·rw[if_pos ⟨rfl,h3⟩] at hO'
   rw[if_neg (by omega)]
   have hO2:atO b=if Es (elO b y)=true then some ⟨odT (bod b x),elO b y⟩ else none:=hO'
   rw[Zk,h3] at hD
   rw[hop] at hO2
   unfold bod at hD hlb hO2
   generalize odT ((b.drop x.body).take (x.stop-x.body))=ot at hD hO2
   unfold elO at hC hT hto hly hO2⊢
   rcases hT with⟨h4,ta,tq,tm,tk,tl,tcs,hT⟩|⟨h4,hT⟩
   ·rw[h4] at hO2
    rw[if_pos (by rfl)] at hO2
    rw[hO2]
    refine acQ 127 Tryz.func138 rfl rfl fun _ _ _=> ?_
    (repeat'((conv=>whnf);first|refine Ae ?_|refine Aa hP C0 ?_|refine NIdx.tab (fun _=>rfl) g0 ?_|refine NIdx.tab (fun _=>rfl) g1 ?_|refine Aa hI rfl ?_|refine NSl.slice (x.body) (x.stop) ?_|refine NSl.slice (y.at') (y.stop) ?_|refine Aa hD C0 ?_|refine Aa hC C0 ?_|refine Aa hT C0 ?_|refine zF ?_|exact zE))
   ·rw[if_neg (by rw[beq_iff_eq];exact h4)] at hO2
    rw[hO2]
    have gd:((Ke ((b.drop y.at').take (y.stop-y.at')):Int) !=0)=true:=by rw[bne_iff_ne];omega
    have hF:=Fy (Ke ((b.drop y.at').take (y.stop-y.at'))) ((y.at'+L4 ((b.drop y.at').take (y.stop-y.at')):Nat):Int)
    generalize L4 ((b.drop y.at').take (y.stop-y.at'))=tO at hT hto hF⊢
    generalize Ke ((b.drop y.at').take (y.stop-y.at'))=tC at hT h4 gd hF⊢
    refine acQ 127 Tryz.func138 rfl rfl fun _ _ _=> ?_
    (repeat'((conv=>whnf);first|refine Ae ?_|refine At asP ?_|refine Aa hP C0 ?_|refine NIdx.tab (fun _=>rfl) g0 ?_|refine NIdx.tab (fun _=>rfl) g1 ?_|refine Aa hI rfl ?_|refine NSl.slice (x.body) (x.stop) ?_|refine NSl.slice (y.at') (y.stop) ?_|refine Aa hD C0 ?_|refine Aa hC C0 ?_|refine Aa hT C0 ?_|refine NInt.as (((y.at'+tO:Nat):Int)) ((by rw[IntWalk.i64_in _ (by omega)];omega)) ?_|refine Aa hF rfl ?_|refine zF ?_|exact zE))
  ·rw[if_neg (fun h=>h3 h.2)] at hO'
   rw[hO',if_pos h3]
   have gd:((odC (bod b x):Int) !=0)=true:=by rw[bne_iff_ne];omega
   have hF:=Fy (odC (bod b x)) x.body
   rw[Zk] at hD
   unfold bod at hD gd hF⊢
   generalize odC ((b.drop x.body).take (x.stop-x.body))=oc at hD gd hF⊢
   generalize odT ((b.drop x.body).take (x.stop-x.body))=ot at hD
   refine acQ 127 Tryz.func138 rfl rfl fun _ _ _=> ?_
   (repeat'((conv=>whnf);first|refine Ae ?_|refine At asP ?_|refine Aa hP C0 ?_|refine NIdx.tab (fun _=>rfl) g0 ?_|refine Aa hI rfl ?_|refine NSl.slice (x.body) (x.stop) ?_|refine Aa hD C0 ?_|refine Aa hF rfl ?_|refine zF ?_|exact zE))
theorem eB (b:List UInt8):atO b=none→(Ur b (Aw b 0 16)).1≠0∧(Ur b (Aw b 0 16)).2≤b.length:=by
 have hin:=fun x=>Ds (b:=b) (c:=0) (n:=16) (x:=x)
 have hoff:=Iq b 0 16
 have hO:atO b=match dV b (Aw b 0 16) with
  |some (id,s)=>if Es s=true then some ⟨id,s⟩ else none
  |none=>none:=rfl
 rw[hO]
 generalize Aw b 0 16=r at hin hoff⊢
 intro h
 unfold Ur
 by_cases h1:r.code≠0
 ·rw[if_pos h1];exact⟨h1,hoff⟩
 rw[if_neg h1]
 obtain⟨l,c,o⟩:=r
 obtain rfl:c=0:=Decidable.not_not.1 h1
 match l with
 |[]=>exact⟨by simp,Nat.le_refl _⟩
 |[x]=>exact⟨by simp,Nat.le_refl _⟩
 |x::y::z::q=>
  have:=hin z (by simp)
  exact⟨by simp,by show z.at'≤_;omega⟩
 |[x,y]=>
  have hx:=hin x (by simp)
  have hy:=hin y (by simp)
  have hl:(elO b y).length≤y.stop-y.at':=by unfold elO;rw[List.length_take];omega
  have hto:=dY (elO b y)
  have h':(match(if x.isB 0 6 false=true∧odC (bod b x)=0 then some (odT (bod b x),elO b y) else none:Option (List UInt8×List UInt8)) with
   |some (id,s)=>if Es s=true then some (⟨id,s⟩:Att) else none
   |none=>none)=none:=h
  simp only
  cases hi:x.isB 0 6 false
  ·rw[if_pos rfl];exact⟨by simp,by show x.at'≤_;omega⟩
  rw[if_neg (by simp)]
  by_cases h3:odC (bod b x)=0
  ·rw[if_neg (by omega)]
   rw[if_pos ⟨hi,h3⟩] at h'
   have h2:(if Es (elO b y)=true then some (⟨odT (bod b x),elO b y⟩:Att) else none)=none:=h'
   rw[Si] at h2
   refine⟨fun e=> ?_,by show y.at'+L4 (elO b y)≤_;omega⟩
   have e:Ke (elO b y)=0:=e
   rw[e,if_pos (by rfl)] at h2;cases h2
  ·rw[if_pos h3];exact⟨h3,by show x.body≤_;omega⟩
def Eg (r:List Att):Bool:= !r.isEmpty&&(r.all atV&&Gp (r.map atE))
def C8 (r:List Att):List UInt8:=Ah 0 17 true (r.map atE).flatten
def nmV (n:List (List Att)):Bool:=n.all Eg
def nmE (n:List (List Att)):List UInt8:=Ah 0 16 true (n.map C8).flatten
theorem Sj {r:List Att} (h:Eg r=true):r≠[]∧r.all atV=true∧Gp (r.map atE)=true:=by
 unfold Eg at h
 simp only[Bool.and_eq_true] at h
 exact⟨by rintro rfl;simp at h,h.2.1,h.2.2⟩
theorem Zy {α:Type} {f:α→Bool} {l:List α} {i:Nat} {x:α} (h:l[i]?=some x) (hf:f x=false):l.all f=false:=by
 cases hh:l.all f with
 |false=>rfl
 |true=>rw[List.all_eq_true.1 hh x (List.mem_of_getElem? h)] at hf;cases hf
theorem Kf {p:Prop} (h:p:=by first|rfl|(simp only[AV.gives,AV.ren,AV.give,D.un,D.uns,Aj,Ak,List.nil_append,List.append_nil,List.cons_append,List.map_cons,List.map_nil,AV.frzs,AV.frz,List.drop_zero,Ap,Du,Dv,A7,Ay,Bs,Bx,A5];first|done|rfl)):p:=h
theorem kD (r:List Att) (i:Nat) {x:Att} (hg:r[i]?=some x) (hx:x.oid.length≤4000000∧x.val.length≤100000000):Ab Tryz.prog 84 [iv i,.d (.cp false [Fq r])] (fun r=>r=if atV x=true then .tup [A4 0 5 (atE x),iv 0] else .tup [Ax,iv 8]):=by
 have hM:=V9 x hx.1 hx.2
 by_cases h:atV x=true
 all_goals
  first|rw[if_pos h] at hM⊢ |rw[if_neg h] at hM⊢
  refine acQ 12 Tryz.func84 rfl rfl fun _ _ _=> ?_
  (repeat'((conv=>whnf);first|refine NIdx.tab (fun _=>rfl) hg ?_|refine Aa hM Kf ?_|exact zE))
theorem Zz (r:List Att) (hl:r.length≤100000) (hs:∀x∈r,x.oid.length≤4000000∧x.val.length≤100000000) (hq:(r.map atE).flatten.length≤100000000) (hp:∀x∈r,(atE x).length≤100000000):Ab Tryz.prog 83 [.agg [iv 17,bv true],iv r.length,.cl 84 [] [.d (.cp false [Fq r])]] (fun q=>q=if r.all atV=true∧Gp (r.map atE)=true then .tup [A4 0 5 (Ah 0 17 true (r.map atE).flatten),iv 0] else .tup [Ax,iv 8]):=by
 have hW:=O3 0 17 true (r.map atE) (by omega) (by omega) (by omega) (by rw[List.length_map];omega)
 have hO2:=Rk (r.map atE) (by rw[List.length_map];omega) (fun p hp0=>by
  obtain⟨x,hx,rfl⟩:=List.mem_map.1 hp0
  have:=hp x hx;omega)
 refine acQ 43 Tryz.func83 rfl rfl fun _ _ _=> ?_
 (all_goals(conv=>whnf))
 refine Ba [.s 8 1 29] (fun i:Nat=>i≤r.length∧(r.take i).all atV=true) (fun i=>r.length-i) (fun i=>⟨[(2,.cl 84 [] [.d (.cp false [Fq r])]),(3,.ptr 3 0),(8,Bx 8 1 29 Ct ((r.take i).map atE)),(12,iv r.length),(13,iv i)],[(3,[iv 17,bv true])],[(8,(((r.take i).map atE).length,1,29))]⟩) 0 ⟨by omega,rfl⟩ leQ ?_
 rintro i ⟨hi,ha⟩
 have hml:((r.take i).map atE).length≤100000:=by rw[List.length_map,List.length_take];omega
 by_cases hik:i<r.length
 ·have gi:decide ((i:Int)<r.length)=true:=decide_eq_true (by omega)
  obtain⟨x,hg⟩:∃p,r[i]?=some p:=⟨_,List.getElem?_eq_getElem hik⟩
  have hO:=kD r i hg (hs x (List.mem_of_getElem? hg))
  cases hv:atV x
  ·rw[hv,if_neg (by simp)] at hO
   rw[if_neg (by rintro⟨h,-⟩;rw[Zy hg hv] at h;cases h)]
   (repeat'((conv=>whnf);first|refine Ac ?_|refine At asP ?_|refine Aa hO Kf ?_|exact zE))
  ·rw[hv,if_pos rfl] at hO
   have hs':=Hp atE hg
   (repeat'((conv=>whnf);first|refine Ae ?_|refine At asP ?_|refine Aa hO Kf ?_|refine A3 Ct (atE x) ?_|(with_reducible refine NInt.i64 ?_)));(all_goals(conv=>whnf))
   refine⟨i+1,⟨by omega,Gb atV hg hv ha⟩,by omega,?_⟩
   rw[hs']
   exact leQ
 ·have gi:decide ((i:Int)<r.length)=false:=decide_eq_false (by omega)
  obtain rfl:i=r.length:=by omega
  rw[List.take_length] at ha⊢
  cases ho:Gp (r.map atE)
  ·rw[ho] at hO2
   rw[if_neg (by rintro⟨-,h⟩;cases h)]
   (repeat'((conv=>whnf);first|refine Ac ?_|refine Av asP ?_|refine Aa hO2 Kf ?_|exact zE))
  ·rw[ho] at hO2
   rw[if_pos ⟨ha,rfl⟩]
   (repeat'((conv=>whnf);first|refine Ac ?_|refine Ae ?_|refine Av asP ?_|refine Aa hO2 Kf ?_|refine Aa hW Kf ?_|exact zE))
structure Att.sm (a:Att):Prop where
 o:a.oid.length≤3000000
 v:a.val.length≤3000000
theorem mX {a:Att} (h:a.sm):(atE a).length≤a.oid.length*5+a.val.length+20:=by
 have h1:=Fs a.oid
 have:=h.o
 have:=h.v
 have h2:=Aq 0 6 false (Bm a.oid) (by omega)
 have h3:=Aq 0 16 true (Ah 0 6 false (Bm a.oid)++a.val) (by rw[List.length_append];omega)
 rw[List.length_append] at h3
 have e:(atE a).length=(Ah 0 16 true (Ah 0 6 false (Bm a.oid)++a.val)).length:=rfl
 omega
structure rdnZ (r:List Att):Prop where
 l:r.length≤100000
 a:∀a∈r,a.sm
 e:(r.map atE).flatten.length≤90000000
structure nmZ (n:List (List Att)):Prop where
 l:n.length≤100000
 r:∀r∈n,rdnZ r
 e:(n.map C8).flatten.length≤90000000
theorem N9 (r:List Att) (hz:rdnZ r):Ab Tryz.prog 59 [.d (Fq r)] (fun q=>q=if Eg r=true then .tup [A4 0 5 (C8 r),iv 0] else .tup [Ax,iv 8]):=by
 obtain⟨hl,hs,hq⟩:=hz
 have hS:=Zz r (by omega) (fun a ha=>by have:=(hs a ha).o;have:=(hs a ha).v;exact⟨by omega,by omega⟩) (by omega) (fun a ha=>by have:=mX (hs a ha);have:=(hs a ha).o;have:=(hs a ha).v;omega)
 cases r with
 |nil=>
  show Ab _ _ _ (fun q=>q= .tup [Ax,iv 8])
  refine acQ 17 Tryz.func59 rfl rfl fun _ _ _=> ?_
  (repeat'((conv=>whnf);refine Ac ?_));(all_goals(conv=>whnf))
  all_goals exact zE
 |cons a q=>
  have gl:(((a::q).length:Int)==0)=false:=by rw[beq_eq_false_iff_ne,List.length_cons];omega
  by_cases h:Eg (a::q)=true
  ·rw[if_pos h]
   rw[if_pos (Sj h).2] at hS
   unfold C8
   generalize (a::q)=r at hS gl
   refine acQ 17 Tryz.func59 rfl rfl fun _ _ _=> ?_
   (repeat'((conv=>whnf);first|refine Av asP ?_|refine Aa hS Kf ?_|exact zE))
  ·rw[if_neg h]
   rw[if_neg (fun k=>h (by unfold Eg;rw[k.1,k.2];rfl))] at hS
   generalize (a::q)=r at hS gl
   refine acQ 17 Tryz.func59 rfl rfl fun _ _ _=> ?_
   (repeat'((conv=>whnf);first|refine Av asP ?_|refine Aa hS Kf ?_|exact zE))
theorem rW (r:List (List Att)) (i:Nat) {x:List Att} (hg:r[i]?=some x) (hx:rdnZ x):Ab Tryz.prog 153 [iv i,.d (.cp false [Fh r])] (fun r=>r=if Eg x=true then .tup [A4 0 5 (C8 x),iv 0] else .tup [Ax,iv 8]):=by
 have hM:=N9 x hx
 by_cases h:Eg x=true
 all_goals
  first|rw[if_pos h] at hM⊢ |rw[if_neg h] at hM⊢
  refine acQ 12 Tryz.func153 rfl rfl fun _ _ _=> ?_
  (repeat'((conv=>whnf);first|refine NIdx.tab (fun _=>rfl) hg ?_|refine Aa hM Kf ?_|exact zE))
theorem eC (r:List (List Att)) (hl:r.length≤100000) (hs:∀x∈r,rdnZ x) (hq:(r.map C8).flatten.length≤100000000) (_:∀x∈r,(C8 x).length≤100000000):Ab Tryz.prog 83 [.agg [iv 16,bv false],iv r.length,.cl 153 [] [.d (.cp false [Fh r])]] (fun q=>q=if r.all Eg=true then .tup [A4 0 5 (Ah 0 16 true (r.map C8).flatten),iv 0] else .tup [Ax,iv 8]):=by
 have hW:=O3 0 16 true (r.map C8) (by omega) (by omega) (by omega) (by rw[List.length_map];omega)
 refine acQ 43 Tryz.func83 rfl rfl fun _ _ _=> ?_
 (all_goals(conv=>whnf))
 refine Ba [.s 8 1 29] (fun i:Nat=>i≤r.length∧(r.take i).all Eg=true) (fun i=>r.length-i) (fun i=>⟨[(2,.cl 153 [] [.d (.cp false [Fh r])]),(3,.ptr 3 0),(8,Bx 8 1 29 Ct ((r.take i).map C8)),(12,iv r.length),(13,iv i)],[(3,[iv 16,bv false])],[(8,(((r.take i).map C8).length,1,29))]⟩) 0 ⟨by omega,rfl⟩ leQ ?_
 rintro i ⟨hi,ha⟩
 have hml:((r.take i).map C8).length≤100000:=by rw[List.length_map,List.length_take];omega
 by_cases hik:i<r.length
 ·have gi:decide ((i:Int)<r.length)=true:=decide_eq_true (by omega)
  obtain⟨x,hg⟩:∃p,r[i]?=some p:=⟨_,List.getElem?_eq_getElem hik⟩
  have hO:=rW r i hg (hs x (List.mem_of_getElem? hg))
  cases hv:Eg x
  ·rw[hv,if_neg (by simp)] at hO
   rw[if_neg (by rintro h;rw[Zy hg hv] at h;cases h)]
   (repeat'((conv=>whnf);first|refine Ac ?_|refine At asP ?_|refine Aa hO Kf ?_|exact zE))
  ·rw[hv,if_pos rfl] at hO
   have hs':=Hp C8 hg
   (repeat'((conv=>whnf);first|refine Ae ?_|refine At asP ?_|refine Aa hO Kf ?_|refine A3 Ct (C8 x) ?_|(with_reducible refine NInt.i64 ?_)));(all_goals(conv=>whnf))
   refine⟨i+1,⟨by omega,Gb Eg hg hv ha⟩,by omega,?_⟩
   rw[hs']
   exact leQ
 ·have gi:decide ((i:Int)<r.length)=false:=decide_eq_false (by omega)
  obtain rfl:i=r.length:=by omega
  rw[List.take_length] at ha⊢
  rw[if_pos ha]
  (repeat'((conv=>whnf);first|refine Ae ?_|refine Av asP ?_|refine Aa hW Kf ?_|exact zE))
theorem rX (n:List (List Att)) (h:nmZ n):Ab Tryz.prog 123 [.d (Fh n)] (fun q=>q=if nmV n=true then .tup [A4 0 5 (nmE n),iv 0] else .tup [Ax,iv 8]):=by
 have hq:=h.e
 have hl:=h.l
 have hS:=eC n (by omega) h.r (by omega) (fun r hr=>by
  have:=Ho (p:=C8 r) (l:=n.map C8) (List.mem_map_of_mem hr)
  omega)
 unfold nmV nmE
 by_cases hv:n.all Eg=true
 all_goals
  first|rw[if_pos hv] at hS⊢ |rw[if_neg hv] at hS⊢
  refine acQ 14 Tryz.func123 rfl rfl fun _ _ _=> ?_
  (repeat'((conv=>whnf);refine Aa hS Kf ?_));(all_goals(conv=>whnf))
  all_goals exact zE
theorem xP (l:List (List UInt8)):D.uns (l.flatMap Il)=l.flatMap Il:=by
 induction l with
 |nil=>rfl
 |cons p r ih=>
  show D.un (Ag false p)::D.uns (r.flatMap Il)=_
  rw[Aj,ih];rfl
def Qu (r:List Att):D:=Er true 2 atU r
theorem mY (l:List Att):D.uns (l.flatMap atU)=l.flatMap atC:=by
 induction l with
 |nil=>rfl
 |cons m r ih=>
  show D.un (sD m.oid)::D.un (Ag true m.val)::D.uns (r.flatMap atU)=_
  rw[Aj,ih];rfl
theorem Bg (r:List Att):(Qu r).un=Fq r:=by
 show D.sl false r.length 2 (D.uns (r.flatMap atU))=_
 rw[mY];rfl
def Xk (r:List Att):List D:=[Qu r]
def Xl (n:List (List Att)):D:=Er true 1 Xk n
theorem Xm (n:List (List Att)):D.uns (n.flatMap Xk)=n.flatMap qR:=by
 induction n with
 |nil=>rfl
 |cons m r ih=>
  show D.un (Qu m)::D.uns (r.flatMap Xk)=_
  rw[Bg,ih];rfl
theorem A9 (n:List (List Att)):(Xl n).un=Fh n:=by
 show D.sl false n.length 1 (D.uns (n.flatMap Xk))=_
 rw[Xm];rfl
def eD (b:List UInt8):Nat×Nat:=Ur b (Aw b 0 16)
def Ry (b:List UInt8):List El→List (List UInt8)→List Att→Option (List Att)×Nat×Nat
 |[],_,out=>(some out,0,0)
 |x::r,ps,out=>match atO (elO b x) with
  |none=>(none,(eD (elO b x)).1,x.at'+(eD (elO b x)).2)
  |some a=>if Gp (ps++[elO b x])=true then Ry b r (ps++[elO b x]) (out++[a]) else(none,7,x.at')
def xQ (b:List UInt8) (r:LR):Option (List Att)×Nat×Nat:=if r.code≠0 then(none,r.code,r.off) else if r.l=[] then(none,1,b.length) else Ry b r.l [] []
def Ir (b:List UInt8):Option (List Att)×Nat×Nat:=xQ b (Aw b 0 17)
def MN:Option (List Att)×Nat×Nat→AV
 |(some r,_,_)=> .tup [.d (Qu r),erA 0 0]
 |(none,c,o)=> .tup [Ax,erA c o]
theorem Sk (b:List UInt8) (x:El):(elO b x).length≤b.length:=by unfold elO;rw[List.length_take,List.length_drop];omega
theorem Qv (b:List UInt8) (x:El):(elO b x).length≤x.stop-x.at':=by unfold elO;rw[List.length_take];omega
theorem Hu {p:Prop} (h:p:=by first|rfl|(simp only[AV.gives,AV.ren,AV.give,D.un,D.uns,Aj,Ak,List.nil_append,List.append_nil,List.cons_append,Ap,A0,Du,Dv,A7,Ay,Bs,Bx,A5,xP];first|done|rfl)):p:=h
theorem Us (b:List UInt8) (hb:b.length≤800000):Ab Tryz.prog 112 [.d (Ag false b)] (fun r=>r=MN (Ir b)):=by
 have hP:=H7 b 0 17 (by omega)
 have hin:=fun x=>Ds (b:=b) (c:=0) (n:=17) (x:=x)
 have hcn:=Ip b 0 17
 unfold Ir
 generalize Aw b 0 17=R at hP hin hcn⊢
 unfold xQ
 by_cases h1:R.code≠0
 ·rw[if_pos h1]
  rw[lrA,if_pos h1] at hP
  have gc:((R.code:Int) !=0)=true:=by rw[bne_iff_ne];omega
  generalize R.code=c at hP gc
  generalize R.off=o at hP
  show Ab _ _ _ (fun r=>r= .tup [Ax,erA c o])
  refine acQ 76 Tryz.func112 rfl rfl fun _ _ _=> ?_
  (repeat'((conv=>whnf);first|refine At asP ?_|refine Aa hP Hu ?_|refine zF ?_|exact zE))
 rw[if_neg h1]
 rw[lrA,if_neg h1] at hP
 generalize R.l=l at hP hin hcn⊢
 by_cases hl:l=[]
 ·subst hl
  show Ab _ _ _ (fun r=>r= .tup [Ax,erA 1 b.length])
  refine acQ 76 Tryz.func112 rfl rfl fun _ _ _=> ?_
  (repeat'((conv=>whnf);first|refine Ac ?_|refine Ae ?_|refine Aa hP Hu ?_|exact zE))
 rw[if_neg hl]
 have gl:((l.length:Int)==0)=false:=by rw[beq_eq_false_iff_ne];intro h;exact hl (List.eq_nil_of_length_eq_zero (by omega))
 generalize hQ:Ry b l [] []=q
 refine acQ 76 Tryz.func112 rfl rfl fun _ _ _=> ?_
 (repeat'((conv=>whnf);first|refine Ae ?_|refine Av asP ?_|refine Aa hP Hu ?_));(all_goals(conv=>whnf))
 refine Ba [.s 6 2 98,.s 7 1 29] (fun z:Nat×List (List UInt8)×List Att=>z.1≤l.length∧z.2.1.length≤z.1∧z.2.2.length≤z.1∧(∀p∈z.2.1,p.length≤b.length)∧q=Ry b (l.drop z.1) z.2.1 z.2.2) (fun z=>l.length-z.1) (fun z=>⟨[(0,.d (Ag false b)),(3,.ptr 3 0),(6,Bx 6 2 98 atU z.2.2),(7,Bx 7 1 29 Il z.2.1),(27,.d (cU l)),(28,iv l.length),(29,iv z.1)],[(3,[iv 0,iv 0])],[(6,(z.2.2.length,2,98)),(7,(z.2.1.length,1,29))]⟩) (0,[],[]) ⟨by simp,by simp,by simp,by simp,by rw[List.drop_zero];exact hQ.symm⟩ leQ ?_
 rintro⟨i,ps,out⟩ ⟨hi,hps,hou,hpl,he⟩
 simp only at hi hps hou hpl he
 by_cases hik:i<l.length
 ·have gi:decide ((i:Int)<l.length)=true:=decide_eq_true (by omega)
  obtain⟨x,hg⟩:∃p,l[i]?=some p:=⟨_,List.getElem?_eq_getElem hik⟩
  obtain⟨x1,x2,x3⟩:=hin x (List.mem_of_getElem? hg)
  have hel:=Sk b x
  have hle:=Qv b x
  have hA:=eA (elO b x) (by omega)
  have hAe:=eB (elO b x)
  rw[Mw hg,Ry] at he
  have hA:Ab Tryz.prog 138 [.d (Ag false (elO b x))] (fun r=>r=atR (atO (elO b x)) (eD (elO b x))):=hA
  have hAe:atO (elO b x)=none→(eD (elO b x)).1≠0∧(eD (elO b x)).2≤(elO b x).length:=hAe
  generalize eD (elO b x)=er at hA hAe he
  cases ho:atO (elO b x) with
  |none=>
   rw[ho] at hA he
   obtain⟨e1,e2⟩:=hAe ho
   obtain⟨ec,eo⟩:=er
   simp only at e1 e2 he
   subst he
   have gc:((ec:Int) !=0)=true:=by rw[bne_iff_ne];omega
   have hA:Ab Tryz.prog 138 [.d (Ag false (elO b x))] (fun r=>r= .tup [.agg [sx [],Ax],erA ec eo]):=hA
   unfold elO at hA e2
   (repeat'((conv=>whnf);first|refine At asP ?_|refine NIdx.tab (fun _=>rfl) hg ?_|refine NSl.slice (x.at') (x.stop) ?_|refine A3 Il ((b.drop x.at').take (x.stop-x.at')) ?_|refine Aa hA Hu ?_|(with_reducible refine NInt.i64 ?_)|refine zF ?_|exact zE))
  |some a=>
   rw[ho] at hA he
   have hA:Ab Tryz.prog 138 [.d (Ag false (elO b x))] (fun r=>r= .tup [.agg [sx a.oid,.d (Ag true a.val)],erA 0 0]):=hA
   simp only at he
   have hOr:=Rk (ps++[elO b x]) (by rw[List.length_append,List.length_singleton];omega) (fun p hp=>by
    rcases List.mem_append.1 hp with h|h
    ·have:=hpl p h;omega
    ·rw[List.mem_singleton.1 h];omega)
   unfold elO at hA hOr he
   cases hor:Gp (ps++[(b.drop x.at').take (x.stop-x.at')])
   ·rw[hor] at hOr he
    rw[if_neg (by simp)] at he
    subst he
    (repeat'((conv=>whnf);first|refine Ac ?_|refine Ae ?_|refine At asP ?_|refine NIdx.tab (fun _=>rfl) hg ?_|refine NSl.slice (x.at') (x.stop) ?_|refine A3 Il ((b.drop x.at').take (x.stop-x.at')) ?_|refine Aa hA Hu ?_|refine Aa hOr Hu ?_|refine zF ?_|exact zE))
   ·rw[hor] at hOr he
    rw[if_pos rfl] at he
    (repeat'((conv=>whnf);first|refine Ae ?_|refine At asP ?_|refine NIdx.tab (fun _=>rfl) hg ?_|refine NSl.slice (x.at') (x.stop) ?_|refine A3 Il ((b.drop x.at').take (x.stop-x.at')) ?_|refine Aa hA Hu ?_|refine Aa hOr Hu ?_|refine A3 atU a ?_|(with_reducible refine NInt.i64 ?_)));(all_goals(conv=>whnf))
    refine⟨(i+1,ps++[(b.drop x.at').take (x.stop-x.at')],out++[a]),⟨by show i+1≤_;omega,by simp;omega,by simp;omega,fun p hp=> ?_,he⟩,by show l.length-(i+1)<l.length-i;omega,?_⟩
    ·rcases List.mem_append.1 hp with h|h
     ·exact hpl p h
     ·rw[List.mem_singleton.1 h];exact hel
    ·exact leQ
 ·have gi:decide ((i:Int)<l.length)=false:=decide_eq_false (by omega)
  obtain rfl:i=l.length:=by omega
  rw[List.drop_length,Ry] at he
  subst he
  (repeat'((conv=>whnf);refine Av asP ?_));(all_goals(conv=>whnf))
  all_goals exact zE
def nmL (b:List UInt8):List El→List (List Att)→Option (List (List Att))×Nat×Nat
 |[],out=>(some out,0,0)
 |x::r,out=>match Ir (elO b x) with
  |(none,c,o)=>(none,c,x.at'+o)
  |(some a,_,_)=>nmL b r (out++[a])
def nmQ (b:List UInt8) (r:LR):Option (List (List Att))×Nat×Nat:=if r.code≠0 then(none,r.code,r.off) else nmL b r.l []
def nmR (b:List UInt8):Option (List (List Att))×Nat×Nat:=nmQ b (Aw b 0 16)
def nmA:Option (List (List Att))×Nat×Nat→AV
 |(some r,_,_)=> .tup [.d (Xl r),erA 0 0]
 |(none,c,o)=> .tup [Ax,erA c o]
theorem mZ (b:List UInt8):∀(l:List El) (ps:List (List UInt8)) (out:List Att),(∀x∈l,x.at'≤x.stop∧x.stop≤b.length)→(Ry b l ps out).1=none→(Ry b l ps out).2.1≠0∧(Ry b l ps out).2.2≤b.length
 |[],_,_,_,h=>by cases h
 |x::r,ps,out,hx,h=>by
  have hle:=Qv b x
  have hAe:atO (elO b x)=none→(eD (elO b x)).1≠0∧(eD (elO b x)).2≤(elO b x).length:=eB (elO b x)
  have:=hx x (by simp)
  rw[Ry] at h⊢
  cases ho:atO (elO b x) with
  |none=>obtain⟨e1,e2⟩:=hAe ho;exact⟨e1,by show x.at'+_≤_;omega⟩
  |some a=>
   rw[ho] at h
   simp only at h⊢
   by_cases hor:Gp (ps++[elO b x])=true
   ·rw[if_pos hor] at h⊢
    exact mZ b r _ _ (fun y hy=>hx y (by simp[hy])) h
   ·rw[if_neg hor];exact⟨by simp,by show x.at'≤_;omega⟩
theorem Z0 (b:List UInt8) (h:(Ir b).1=none):(Ir b).2.1≠0∧(Ir b).2.2≤b.length:=by
 have hin:=fun x=>Ds (b:=b) (c:=0) (n:=17) (x:=x)
 have hoff:=Iq b 0 17
 unfold Ir at h⊢
 generalize Aw b 0 17=R at hin hoff h⊢
 unfold xQ at h⊢
 by_cases h1:R.code≠0
 ·rw[if_pos h1];exact⟨h1,hoff⟩
 rw[if_neg h1] at h⊢
 by_cases hl:R.l=[]
 ·rw[if_pos hl];exact⟨by simp,Nat.le_refl _⟩
 ·rw[if_neg hl] at h⊢
  exact mZ b R.l [] [] (fun y hy=>by have:=hin y hy;omega) h
theorem rY (b:List UInt8) (hb:b.length≤800000):Ab Tryz.prog 186 [.d (Ag false b)] (fun r=>r=nmA (nmR b)):=by
 have hP:=H7 b 0 16 (by omega)
 have hin:=fun x=>Ds (b:=b) (c:=0) (n:=16) (x:=x)
 have hcn:=Ip b 0 16
 unfold nmR
 generalize Aw b 0 16=R at hP hin hcn⊢
 unfold nmQ
 by_cases h1:R.code≠0
 ·rw[if_pos h1]
  rw[lrA,if_pos h1] at hP
  have gc:((R.code:Int) !=0)=true:=by rw[bne_iff_ne];omega
  generalize R.code=c at hP gc
  generalize R.off=o at hP
  show Ab _ _ _ (fun r=>r= .tup [Ax,erA c o])
  refine acQ 54 Tryz.func186 rfl rfl fun _ _ _=> ?_
  (repeat'((conv=>whnf);first|refine At asP ?_|refine Aa hP Hu ?_|refine zF ?_|exact zE))
 rw[if_neg h1]
 rw[lrA,if_neg h1] at hP
 generalize R.l=l at hP hin hcn⊢
 generalize hQ:nmL b l []=q
 refine acQ 54 Tryz.func186 rfl rfl fun _ _ _=> ?_
 (repeat'((conv=>whnf);first|refine Ae ?_|refine Aa hP Hu ?_));(all_goals(conv=>whnf))
 refine Ba [.s 6 1 24] (fun z:Nat×List (List Att)=>z.1≤l.length∧z.2.length≤z.1∧q=nmL b (l.drop z.1) z.2) (fun z=>l.length-z.1) (fun z=>⟨[(0,.d (Ag false b)),(3,.ptr 3 0),(6,Bx 6 1 24 Xk z.2),(20,.d (cU l)),(21,iv l.length),(22,iv z.1)],[(3,[iv 0,iv 0])],[(6,(z.2.length,1,24))]⟩) (0,[]) ⟨by simp,by simp,by rw[List.drop_zero];exact hQ.symm⟩ leQ ?_
 rintro⟨i,out⟩ ⟨hi,hou,he⟩
 simp only at hi hou he
 by_cases hik:i<l.length
 ·have gi:decide ((i:Int)<l.length)=true:=decide_eq_true (by omega)
  obtain⟨x,hg⟩:∃p,l[i]?=some p:=⟨_,List.getElem?_eq_getElem hik⟩
  obtain⟨x1,x2,x3⟩:=hin x (List.mem_of_getElem? hg)
  have hel:=Sk b x
  have hle:=Qv b x
  have hA:=Us (elO b x) (by omega)
  have hAe:=Z0 (elO b x)
  rw[Mw hg,nmL] at he
  generalize Ir (elO b x)=er at hA hAe he
  obtain⟨eo,ec,ep⟩:=er
  cases eo with
  |none=>
   obtain⟨e1,e2⟩:=hAe rfl
   simp only at e1 e2 he
   subst he
   have gc:((ec:Int) !=0)=true:=by rw[bne_iff_ne];omega
   have hA:Ab Tryz.prog 112 [.d (Ag false (elO b x))] (fun r=>r= .tup [Ax,erA ec ep]):=hA
   unfold elO at hA e2
   (repeat'((conv=>whnf);first|refine At asP ?_|refine NIdx.tab (fun _=>rfl) hg ?_|refine NSl.slice (x.at') (x.stop) ?_|refine Aa hA Hu ?_|(with_reducible refine NInt.i64 ?_)|refine zF ?_|exact zE))
  |some a=>
   simp only at he
   have hA:Ab Tryz.prog 112 [.d (Ag false (elO b x))] (fun r=>r= .tup [.d (Qu a),erA 0 0]):=hA
   unfold elO at hA
   (repeat'((conv=>whnf);first|refine Ae ?_|refine At asP ?_|refine NIdx.tab (fun _=>rfl) hg ?_|refine NSl.slice (x.at') (x.stop) ?_|refine Aa hA Hu ?_|refine A3 Xk a ?_|(with_reducible refine NInt.i64 ?_)));(all_goals(conv=>whnf))
   refine⟨(i+1,out++[a]),⟨by show i+1≤_;omega,by simp;omega,he⟩,by show l.length-(i+1)<l.length-i;omega,?_⟩
   exact leQ
 ·have gi:decide ((i:Int)<l.length)=false:=decide_eq_false (by omega)
  obtain rfl:i=l.length:=by omega
  rw[List.drop_length,nmL] at he
  subst he
  (repeat'((conv=>whnf);refine Av asP ?_));(all_goals(conv=>whnf))
  all_goals exact zE
theorem xR (b:List UInt8):∀(l:List El) (out:List (List Att)),(∀x∈l,x.at'≤x.stop∧x.stop≤b.length)→(nmL b l out).1=none→(nmL b l out).2.1≠0∧(nmL b l out).2.2≤b.length
 |[],_,_,h=>by cases h
 |x::r,out,hx,h=>by
  have hle:=Qv b x
  have hAe:=Z0 (elO b x)
  have:=hx x (by simp)
  rw[nmL] at h⊢
  generalize Ir (elO b x)=er at hAe h⊢
  obtain⟨eo,ec,ep⟩:=er
  cases eo with
  |none=>obtain⟨e1,e2⟩:=hAe rfl;exact⟨e1,by show x.at'+ep≤_;simp only at e2;omega⟩
  |some a=>exact xR b r _ (fun y hy=>hx y (by simp[hy])) h
theorem IY (b:List UInt8) (h:(nmR b).1=none):(nmR b).2.1≠0∧(nmR b).2.2≤b.length:=by
 have hin:=fun x=>Ds (b:=b) (c:=0) (n:=16) (x:=x)
 have hoff:=Iq b 0 16
 unfold nmR at h⊢
 generalize Aw b 0 16=R at hin hoff h⊢
 unfold nmQ at h⊢
 by_cases h1:R.code≠0
 ·rw[if_pos h1];exact⟨h1,hoff⟩
 rw[if_neg h1] at h⊢
 exact xR b R.l [] (fun y hy=>by have:=hin y hy;omega) h
abbrev gnQ (g:Gn):AV:= .agg [iv g.k,.d (sD g.oid),.d (sD g.tx),.d (Ag true g.by'),.d (Xl g.nm),iv g.ak,.d (sD g.av),iv g.pk,.d (sD g.pv)]
def gz:Gn:=⟨0,[],[],[],[],0,[],0,[]⟩
abbrev ptA (k:Int) (c:List UInt8):AV:= .agg [iv k,.d (Ag false c)]
abbrev gbA (p:Gn×Bool):AV:= .tup [gnQ p.1,bv p.2]
theorem C1 {p:Prop} (h:p:=by first|rfl|(simp only[AV.gives,AV.ren,AV.give,D.un,D.uns,Aj,Ak,List.nil_append,List.append_nil,List.cons_append,Ap,A0,Bk,A7,Ay,Bj,Bs,Bg,A9];first|done|rfl)):p:=h
theorem Qw (k:Int) (c:List UInt8) (hl:c.length≤1000000):Ab Tryz.prog 155 [ptA k c] (fun r=>r=gbA (⟨k,[],Eo 22 c,[],[],0,[],0,[]⟩,Fi 22 c==0)):=by
 have hE:=O5 22 c hl
 refine acQ 19 Tryz.func155 rfl rfl fun _ _ _=> ?_
 (repeat'((conv=>whnf);refine Aa hE C1 ?_));(all_goals(conv=>whnf))
 all_goals exact zE
theorem Ut (k:Int) (c:List UInt8) (hl:c.length≤1000000):Ab Tryz.prog 156 [ptA k c] (fun r=>r=gbA (⟨k,[],[],c,[],0,[],0,[]⟩,true)):=by
 have hE:=J4 c (by omega)
 refine acQ 10 Tryz.func156 rfl rfl fun _ _ _=> ?_
 (repeat'((conv=>whnf);first|refine Aa hE C1 ?_|refine zF ?_|exact zE))
theorem eE (k:Int) (c:List UInt8) (hl:c.length≤800000):Ab Tryz.prog 159 [ptA k c] (fun r=>r=gbA (⟨k,odT c,[],[],[],0,[],0,[]⟩,(odC c:Int)==0)):=by
 have hE:=N5 c (by omega)
 rw[Zk] at hE
 refine acQ 18 Tryz.func159 rfl rfl fun _ _ _=> ?_
 (repeat'((conv=>whnf);refine Aa hE C1 ?_));(all_goals(conv=>whnf))
 all_goals exact zE
def Pl (k:Int) (c:List UInt8):Gn×Bool:=match nmR c with
 |(some n,_,_)=>(⟨k,[],[],[],n,0,[],0,[]⟩,true)
 |(none,_,_)=>(⟨k,[],[],[],[],0,[],0,[]⟩,false)
theorem xS (k:Int) (c:List UInt8) (hl:c.length≤800000):Ab Tryz.prog 157 [ptA k c] (fun r=>r=gbA (Pl k c)):=by
 have hE:=rY c hl
 have ho:=IY c
 unfold Pl
 generalize nmR c=q at hE ho⊢
 obtain⟨n,cd,of⟩:=q
 cases n with
 |none=>
  have h0:=(ho rfl).1
  simp only at h0
  have g0:((cd:Int)==0)=false:=by rw[beq_eq_false_iff_ne];omega
  have hE:Ab Tryz.prog 186 [.d (Ag false c)] (fun r=>r= .tup [Ax,erA cd of]):=hE
  refine acQ 19 Tryz.func157 rfl rfl fun _ _ _=> ?_
  (repeat'((conv=>whnf);first|refine Aa hE C1 ?_|refine zF ?_));(all_goals(conv=>whnf))
  all_goals(refine Az ?_;(repeat'(first|exact trivial|exact By _|refine And.intro ?_ ?_|exact rfl));(all_goals(conv=>whnf)))
  all_goals exact g0
 |some n=>
  have hE:Ab Tryz.prog 186 [.d (Ag false c)] (fun r=>r= .tup [.d (Xl n),erA 0 0]):=hE
  refine acQ 19 Tryz.func157 rfl rfl fun _ _ _=> ?_
  (repeat'((conv=>whnf);first|refine Aa hE C1 ?_|refine zF ?_|exact zE))
theorem Oa {c p:List UInt8} (h:p∈Dc c):p.length≤c.length:=by
 unfold Dc at h
 split at h
 ·cases h
 ·obtain⟨x,-,rfl⟩:=List.mem_map.1 h
  exact Sk c x
def inn (b:List UInt8) (n:Nat):List UInt8:=(Bn b n).getD []
theorem DO (b:List UInt8) (n:Nat) (hb:b.length≤1000000000):Ab Tryz.prog 184 [.d (Ag false b),iv n] (fun r=>r=wH (Bn b n)):=qQ b n hb
theorem Pm (b:List UInt8) (n:Nat):(inn b n).length≤b.length:=by
 unfold inn Bn
 split
 ·exact Nat.zero_le _
 ·show((b.drop _).take _).length≤_;rw[List.length_take,List.length_drop];omega
def Wa (k:Int) (p q:List UInt8):Gn×Bool:=if(A8 p).code≠0∨(A8 p).x.isB 0 6 false=false then(gz,false) else
 (⟨k,odT (p.drop (A8 p).x.body),[],inn q 0,[],0,[],0,[]⟩,(Bn q 0).isSome&&((odC (p.drop (A8 p).x.body):Int)==0))
def M8 (k:Int) (c:List UInt8):Gn×Bool:=match Dc c with
 |[p,q]=>Wa k p q
 |_=>(gz,false)
theorem xT (k:Int) (c:List UInt8) (hl:c.length≤800000):Ab Tryz.prog 154 [ptA k c] (fun r=>r=gbA (M8 k c)):=by
 have hS:=W6 c (by omega)
 have hm:=fun p=>Oa (c:=c) (p:=p)
 unfold M8
 generalize Dc c=l at hS hm⊢
 match l with
 |[]=>
  refine acQ 62 Tryz.func154 rfl rfl fun _ _ _=> ?_
  (repeat'((conv=>whnf);first|refine Ac ?_|refine Aa hS C1 ?_|exact zE))
 |[x]=>
  refine acQ 62 Tryz.func154 rfl rfl fun _ _ _=> ?_
  (repeat'((conv=>whnf);first|refine Ac ?_|refine Aa hS C1 ?_|exact zE))
 |x::y::z::r=>
  refine acQ 62 Tryz.func154 rfl rfl fun _ _ _=> ?_
  (repeat'((conv=>whnf);first|refine Ac ?_|refine Aa hS C1 ?_|exact zE))
 |[p,q]=>
  have hp:=hm p (by simp)
  have hq:=hm q (by simp)
  have g0:([p,q]:List (List UInt8))[0]?=some p:=rfl
  have g1:([p,q]:List (List UInt8))[1]?=some q:=rfl
  have hO:=Kp p (by omega)
  have hF:=Dm p
  have hI:=Qg (A8 p).x 0 6 false
  show Ab _ _ _ (fun r=>r=gbA (Wa k p q))
  unfold Wa
  by_cases h1:(A8 p).code≠0
  ·rw[if_pos (.inl h1)]
   generalize A8 p=r1 at hO h1
   have gc:((r1.code:Int) !=0)=true:=by rw[bne_iff_ne];omega
   refine acQ 62 Tryz.func154 rfl rfl fun _ _ _=> ?_
   (repeat'((conv=>whnf);first|refine Ac ?_|refine Ae ?_|refine At asP ?_|refine Aa hS C1 ?_|refine NIdx.tab (fun _=>rfl) g0 ?_|refine Aa hO C1 ?_|exact zE))
  have h1':=Decidable.not_not.1 h1
  cases h2:(A8 p).x.isB 0 6 false
  ·rw[if_pos (.inr rfl)]
   rw[h2] at hI
   generalize A8 p=r1 at hO h1' hI
   obtain⟨x1,c1,o1⟩:=r1
   simp only at h1'
   subst h1'
   refine acQ 62 Tryz.func154 rfl rfl fun _ _ _=> ?_
   (repeat'((conv=>whnf);first|refine Ac ?_|refine Ae ?_|refine Aa hS C1 ?_|refine NIdx.tab (fun _=>rfl) g0 ?_|refine Aa hO C1 ?_|refine Aa hI rfl ?_|exact zE))
  ·rw[if_neg (by rintro(h|h);exact h1 h;cases h)]
   rw[h2] at hI
   have hb:=hF.1 h1'
   have hD:=N5 (p.drop (A8 p).x.body) (by rw[List.length_drop];omega)
   have hN:=DO q 0 (by omega)
   have hil:=Pm q 0
   have hC:=J4 (inn q 0) (by omega)
   rw[Zk] at hD
   unfold inn at hC⊢
   generalize A8 p=r1 at hO h1' hI hb hD⊢
   obtain⟨x1,c1,o1⟩:=r1
   simp only at h1' hb hI hD⊢
   subst h1'
   generalize odT (p.drop x1.body)=ot at hD⊢
   generalize odC (p.drop x1.body)=oc at hD⊢
   cases hin:Bn q 0 with
   |none=>
    rw[hin] at hN hC
    have hC:Ab Tryz.prog 165 [.d (Ag false [])] (fun r=>r= .d (Ag true [])):=hC
    have hN:Ab Tryz.prog 184 [.d (Ag false q),iv 0] (fun r=>r= .tup [Ax,bv false]):=hN
    refine acQ 62 Tryz.func154 rfl rfl fun _ _ _=> ?_
    (repeat'((conv=>whnf);first|refine Ae ?_|refine Aa hS C1 ?_|refine NIdx.tab (fun _=>rfl) g0 ?_|refine NIdx.tab (fun _=>rfl) g1 ?_|refine Aa hO C1 ?_|refine Aa hI rfl ?_|refine Gm (x1.body) ?_|refine Aa hD C1 ?_|refine Aa hN C1 ?_|refine A6 hC M5 ?_|refine zF ?_|exact zE))
   |some v=>
    rw[hin] at hN hC
    have hC:Ab Tryz.prog 165 [.d (Ag false v)] (fun r=>r= .d (Ag true v)):=hC
    have hN:Ab Tryz.prog 184 [.d (Ag false q),iv 0] (fun r=>r= .tup [.d (Ag false v),bv true]):=hN
    refine acQ 62 Tryz.func154 rfl rfl fun _ _ _=> ?_
    (repeat'((conv=>whnf);first|refine Ac ?_|refine Ae ?_|refine Aa hS C1 ?_|refine NIdx.tab (fun _=>rfl) g0 ?_|refine NIdx.tab (fun _=>rfl) g1 ?_|refine Aa hO C1 ?_|refine Aa hI rfl ?_|refine Gm (x1.body) ?_|refine Aa hD C1 ?_|refine Aa hN C1 ?_|refine Aa hC C1 ?_|refine zF ?_|exact zE))
def pK (b:List UInt8):Int:=if Fx b=true then M7 b else 0
def pV (b:List UInt8):List UInt8:=if Fx b=true then Qt b else []
theorem Z1 (b:List UInt8) (hb:b.length≤1000000):Ab Tryz.prog 187 [.d (Ag false b)] (fun r=>r= .tup [txA (pK b) (pV b),bv (Fx b)]):=by
 have h:=V8 b hb
 unfold IX at h
 unfold pK pV
 cases hd:Fx b
 all_goals
  rw[hd] at h
  exact h
def Kv (k:Int) (q:List UInt8) (ak:Int) (av:List UInt8):Gn×Bool:=(⟨k,[],[],[],[],ak,av,pK (inn q 1),pV (inn q 1)⟩,(Bn q 1).isSome&&Fx (inn q 1))
def Kg (k:Int) (c:List UInt8):Gn×Bool:=match Dc c with
 |[p,q]=>if(Bn p 0).isSome&&Fx (inn p 0) then Kv k q (pK (inn p 0)) (pV (inn p 0)) else(gz,false)
 |[q]=>Kv k q 0 []
 |_=>(gz,false)
theorem Ft {b v:List UInt8} {n:Nat} (h:Bn b n=some v):inn b n=v:=by unfold inn;rw[h];rfl
theorem Uu {b:List UInt8} {n:Nat} (h:Bn b n=none):inn b n=[]:=by unfold inn;rw[h];rfl
theorem B6 {p:Prop} (h:p:=by first|rfl|(simp only[AV.gives,AV.ren,AV.give,D.un,D.uns,Aj,Ak,List.nil_append,List.append_nil,List.cons_append,Ap,A0,Bk,A7,Ay,Bj,Bs,Bg,A9];first|done|rfl)):p:=h
theorem xU (k:Int) (c:List UInt8) (hl:c.length≤800000):Ab Tryz.prog 158 [ptA k c] (fun r=>r=gbA (Kg k c)):=by
 have hS:=W6 c (by omega)
 have hm:=fun p=>Oa (c:=c) (p:=p)
 unfold Kg
 generalize Dc c=l at hS hm⊢
 match l with
 |[]=>
  refine acQ 69 Tryz.func158 rfl rfl fun _ _ _=> ?_
  (repeat'((conv=>whnf);first|refine Ac ?_|refine Ae ?_|refine Aa hS B6 ?_|exact zE))
 |x::y::z::r=>
  refine acQ 69 Tryz.func158 rfl rfl fun _ _ _=> ?_
  (repeat'((conv=>whnf);first|refine Ac ?_|refine Ae ?_|refine Aa hS B6 ?_|exact zE))
 |[q]=>
  have hq:=hm q (by simp)
  have g0:([q]:List (List UInt8))[0]?=some q:=rfl
  have hN:=DO q 1 (by omega)
  have hil:=Pm q 1
  have hD:=Z1 (inn q 1) (by omega)
  show Ab _ _ _ (fun r=>r=gbA (Kv k q 0 []))
  unfold Kv
  cases hin:Bn q 1 with
  |none=>
   rw[hin] at hN
   rw[Uu hin] at hD⊢
   have hN:Ab Tryz.prog 184 [.d (Ag false q),iv 1] (fun r=>r= .tup [Ax,bv false]):=hN
   generalize pK []=K at hD⊢
   generalize pV []=V at hD⊢
   generalize Fx []=O at hD⊢
   refine acQ 69 Tryz.func158 rfl rfl fun _ _ _=> ?_
   (repeat'((conv=>whnf);first|refine Ae ?_|refine Aa hS B6 ?_|refine NIdx.tab (fun _=>rfl) g0 ?_|refine Aa hN B6 ?_|refine A6 hD M5 ?_|exact zE))
  |some v=>
   rw[hin] at hN
   rw[Ft hin] at hD⊢
   have hN:Ab Tryz.prog 184 [.d (Ag false q),iv 1] (fun r=>r= .tup [.d (Ag false v),bv true]):=hN
   generalize pK v=K at hD⊢
   generalize pV v=V at hD⊢
   generalize Fx v=O at hD⊢
   refine acQ 69 Tryz.func158 rfl rfl fun _ _ _=> ?_
   (repeat'((conv=>whnf);first|refine Ac ?_|refine Ae ?_|refine Aa hS B6 ?_|refine NIdx.tab (fun _=>rfl) g0 ?_|refine Aa hN B6 ?_|refine Aa hD B6 ?_|exact zE))
 |[p,q]=>
  have hp:=hm p (by simp)
  have hq:=hm q (by simp)
  have g0:([p,q]:List (List UInt8))[0]?=some p:=rfl
  have g1:([q]:List (List UInt8))[0]?=some q:=rfl
  have hN0:=DO p 0 (by omega)
  have hil0:=Pm p 0
  have hD0:=Z1 (inn p 0) (by omega)
  have hN:=DO q 1 (by omega)
  have hil:=Pm q 1
  have hD:=Z1 (inn q 1) (by omega)
  show Ab _ _ _ (fun r=>r=gbA (if(Bn p 0).isSome&&Fx (inn p 0) then Kv k q (pK (inn p 0)) (pV (inn p 0)) else(gz,false)))
  cases hin0:Bn p 0 with
  |none=>
   rw[hin0] at hN0
   rw[Uu hin0] at hD0
   have hN0:Ab Tryz.prog 184 [.d (Ag false p),iv 0] (fun r=>r= .tup [Ax,bv false]):=hN0
   rw[if_neg (by simp)]
   generalize pK []=K at hD0
   generalize pV []=V at hD0
   generalize Fx []=O at hD0
   refine acQ 69 Tryz.func158 rfl rfl fun _ _ _=> ?_
   (repeat'((conv=>whnf);first|refine Ac ?_|refine Aa hS B6 ?_|refine NIdx.tab (fun _=>rfl) g0 ?_|refine Aa hN0 B6 ?_|refine A6 hD0 M5 ?_|exact zE))
  |some v=>
   rw[hin0] at hN0
   rw[Ft hin0] at hD0⊢
   have hN0:Ab Tryz.prog 184 [.d (Ag false p),iv 0] (fun r=>r= .tup [.d (Ag false v),bv true]):=hN0
   cases hd0:Fx v
   ·rw[hd0] at hD0
    rw[if_neg (by simp)]
    refine acQ 69 Tryz.func158 rfl rfl fun _ _ _=> ?_
    (repeat'((conv=>whnf);first|refine Ac ?_|refine Ae ?_|refine Aa hS B6 ?_|refine NIdx.tab (fun _=>rfl) g0 ?_|refine Aa hN0 B6 ?_|refine Aa hD0 B6 ?_|exact zE))
   rw[hd0] at hD0
   rw[if_pos (by rfl)]
   generalize pK v=K0 at hD0⊢
   generalize pV v=V0 at hD0⊢
   unfold Kv
   cases hin:Bn q 1 with
   |none=>
    rw[hin] at hN
    rw[Uu hin] at hD⊢
    have hN:Ab Tryz.prog 184 [.d (Ag false q),iv 1] (fun r=>r= .tup [Ax,bv false]):=hN
    generalize pK []=K at hD⊢
    generalize pV []=V at hD⊢
    generalize Fx []=O at hD⊢
    refine acQ 69 Tryz.func158 rfl rfl fun _ _ _=> ?_
    (repeat'((conv=>whnf);first|refine Ac ?_|refine Ae ?_|refine Aa hS B6 ?_|refine NIdx.tab (fun _=>rfl) g0 ?_|refine Aa hN0 B6 ?_|refine Aa hD0 B6 ?_|refine NSl.tab (fun _=>rfl) 1 2 [q] rfl ?_|refine NIdx.tab (fun _=>rfl) g1 ?_|refine Aa hN B6 ?_|refine A6 hD M5 ?_|refine zF ?_|exact zE))
   |some v=>
    rw[hin] at hN
    rw[Ft hin] at hD⊢
    have hN:Ab Tryz.prog 184 [.d (Ag false q),iv 1] (fun r=>r= .tup [.d (Ag false v),bv true]):=hN
    generalize pK v=K at hD⊢
    generalize pV v=V at hD⊢
    generalize Fx v=O at hD⊢
    refine acQ 69 Tryz.func158 rfl rfl fun _ _ _=> ?_
    (repeat'((conv=>whnf);first|refine Ac ?_|refine Ae ?_|refine Aa hS B6 ?_|refine NIdx.tab (fun _=>rfl) g0 ?_|refine Aa hN0 B6 ?_|refine Aa hD0 B6 ?_|refine NSl.tab (fun _=>rfl) 1 2 [q] rfl ?_|refine NIdx.tab (fun _=>rfl) g1 ?_|refine Aa hN B6 ?_|refine Aa hD B6 ?_|refine zF ?_|exact zE))
theorem Xn (b:List UInt8) (hb:b.length≤1000000000):Ab Tryz.prog 120 [.d (Ag false b)] (fun r=>r=bv (Es b)):=by
 rw[Si]
 rcases Uo b hb with⟨h1,ta,tq,tm,tk,tl,tcs,hT⟩|⟨h1,hT⟩
 ·rw[h1]
  refine acQ 13 Tryz.func120 rfl rfl fun _ _ _=> ?_
  (repeat'((conv=>whnf);refine Aa hT B6 ?_));(all_goals(conv=>whnf))
  all_goals exact zE
 ·generalize L4 b=tO at hT
  generalize Ke b=tc at hT h1⊢
  have g1:((tc:Int)==0)=(tc==0):=Hi tc 0
  refine acQ 13 Tryz.func120 rfl rfl fun _ _ _=> ?_
  (repeat'((conv=>whnf);refine Aa hT B6 ?_));(all_goals(conv=>whnf))
  all_goals(refine Az ?_;(repeat'(first|refine And.intro ?_ ?_|exact rfl));(all_goals(conv=>whnf)))
  all_goals exact g1
theorem I9 (n:Nat) (b:List UInt8) (hn:n≤30) (hb:b.length≤900000000):Ab Tryz.prog 121 [iv n,.d (Ag false b)] (fun r=>r= .tup [A4 0 5 (Ah 2 n true b),iv 0]):=by
 have hW:=Dk 2 n true b (by omega) hn hb
 refine acQ 12 Tryz.func121 rfl rfl fun _ _ _=> ?_
 (repeat'((conv=>whnf);refine Aa hW B6 ?_));(all_goals(conv=>whnf))
 all_goals exact zE
theorem nA (k:Int):(k=0∨k=1∨k=2∨k=3∨k=4∨k=5∨k=6∨k=7∨k=8)∨((k==0)=false∧(k==1)=false∧(k==2)=false∧(k==3)=false∧(k==4)=false∧(k==5)=false∧(k==6)=false∧(k==7)=false∧(k==8)=false):=by
 simp only[beq_eq_false_iff_ne];omega
def Dw (k:Int):Bool:=k==0||(k==3||(k==4||k==5))
theorem eF (k:Int):Ab Tryz.prog 91 [iv k] (fun r=>r=bv (Dw k)):=by
 rcases nA k with(h|h|h|h|h|h|h|h|h)|⟨h0,h1,h2,h3,h4,h5,h6,h7,h8⟩
 case inr=>
  rw[show Dw k=false by unfold Dw;rw[h0,h3,h4,h5];rfl]
  refine acQ 9 Tryz.func91 rfl rfl fun _ _ _=> ?_
  (repeat'((conv=>whnf);refine Av asP ?_));(all_goals(conv=>whnf))
  all_goals exact zE
 all_goals
  subst h
  refine acQ 9 Tryz.func91 rfl rfl fun _ _ _=> ?_
  (repeat'((conv=>whnf);first|refine Ac ?_|refine Ae ?_|exact zE))
def ip (n:Nat):Bool:=n==4||(n==8||(n==16||n==32))
def Rz (g:Gn):Bool:=if g.k=0 then Es g.by' else if g.k=3 then Es (Ah 2 3 true g.by') else if g.k=7 then ip g.by'.length else true
theorem Xo (g:Gn) (hb:g.by'.length≤100000000):Ab Tryz.prog 89 [gnA g] (fun r=>r=bv (Rz g)):=by
 obtain⟨k,oid,tx,by',nm,ak,av,pk,pv⟩:=g
 simp only at hb
 have hO:=Xn by' (by omega)
 have hX:=I9 3 by' (by omega) (by omega)
 have hle:=Aq 2 3 true by' (by omega)
 have hO3:=Xn (Ah 2 3 true by') (by omega)
 unfold Rz
 simp only
 rcases nA k with(h|h|h|h|h|h|h|h|h)|⟨h0,h1,h2,h3,h4,h5,h6,h7,h8⟩
 case inr=>
  rw[if_neg (by simpa using h0),if_neg (by simpa using h3),if_neg (by simpa using h7)]
  refine acQ 48 Tryz.func89 rfl rfl fun _ _ _=> ?_
  (repeat'((conv=>whnf);refine Av asP ?_));(all_goals(conv=>whnf))
  all_goals exact zE
 case inl.inr.inr.inr.inr.inr.inr.inr.inl=>
  subst h
  rw[if_neg (by decide),if_neg (by decide),if_pos rfl]
  unfold ip
  have b1:=Hi by'.length 4
  have b2:=Hi by'.length 8
  have b3:=Hi by'.length 16
  have b4:=Hi by'.length 32
  generalize (by'.length==4)=c1 at b1⊢
  generalize (by'.length==8)=c2 at b2⊢
  generalize (by'.length==16)=c3 at b3⊢
  generalize (by'.length==32)=c4 at b4⊢
  cases c1<;>cases c2<;>cases c3<;>cases c4
  all_goals
   refine acQ 48 Tryz.func89 rfl rfl fun _ _ _=> ?_
   (repeat'((conv=>whnf);first|refine Ac ?_|refine Ae ?_|refine At asP ?_|refine Av asP ?_));(all_goals(conv=>whnf))
   all_goals(refine Az ?_;(repeat'(first|exact By _|refine And.intro ?_ ?_|exact rfl));(all_goals(conv=>whnf)))
   all_goals exact b4
 case inl.inl=>
  subst h
  rw[if_pos rfl]
  refine acQ 48 Tryz.func89 rfl rfl fun _ _ _=> ?_
  (repeat'((conv=>whnf);first|refine Ac ?_|refine Aa hO B6 ?_|exact zE))
 case inl.inr.inr.inr.inl=>
  subst h
  rw[if_neg (by decide),if_pos rfl]
  refine acQ 48 Tryz.func89 rfl rfl fun _ _ _=> ?_
  (repeat'((conv=>whnf);first|refine Ac ?_|refine Ae ?_|refine Aa hX B6 ?_|refine Aa hO3 B6 ?_|exact zE))
 all_goals
  subst h
  rw[if_neg (by decide),if_neg (by decide),if_neg (by decide)]
  refine acQ 48 Tryz.func89 rfl rfl fun _ _ _=> ?_
  (repeat'((conv=>whnf);refine Ae ?_));(all_goals(conv=>whnf))
  all_goals exact zE
def zT (k:Int) (l:List UInt8):Bool:=k==0&&l==[]
def alB (a b c d e:Bool) (g:Gn):Bool:=(a||g.oid==[])&&((b||g.tx==[])&&((c||(g.by'.length:Int)==0)&&((d||(g.nm.length:Int)==0)&&(e||(zT g.ak g.av&&zT g.pk g.pv)))))
def Cg (g:Gn):Bool:=alB (g.k==0||g.k==8) (g.k==1||(g.k==2||g.k==6)) (g.k==0||(g.k==3||g.k==7)) (g.k==4) (g.k==5) g
theorem rZ (g:Gn):Ab Tryz.prog 88 [gnA g] (fun r=>r=bv (Cg g)):=by
 obtain⟨k,oid,tx,by',nm,ak,av,pk,pv⟩:=g
 unfold Cg alB zT
 simp only
 rcases nA k with(h|h|h|h|h|h|h|h|h)|⟨h0,h1,h2,h3,h4,h5,h6,h7,h8⟩
 case inr=>
  rw[h0,h1,h2,h3,h4,h5,h6,h7,h8]
  refine acQ 86 Tryz.func88 rfl rfl fun _ _ _=> ?_
  (repeat'((conv=>whnf);first|refine Ac ?_|refine Ae ?_|refine Av asP ?_|refine An (Dq rfl rfl (ltN rfl) rfl rfl) ?_|(refine Ai (fun hc hcP=> ?_) (fun hc hcP=> ?_)<;>try(exfalso;omega))|refine NBr.mk (fun hc=> ?_) (fun hc=> ?_)));(all_goals(conv=>whnf))
  all_goals(refine Az ?_;(repeat'(first|refine And.intro ?_ ?_|exact rfl));(all_goals(conv=>whnf)))
  all_goals(simp_all)
 all_goals
  subst h
  refine acQ 86 Tryz.func88 rfl rfl fun _ _ _=> ?_
  (repeat'((conv=>whnf);first|refine Ac ?_|refine Ae ?_|refine An (Dq rfl rfl (ltN rfl) rfl rfl) ?_|(refine Ai (fun hc hcP=> ?_) (fun hc hcP=> ?_)<;>try(exfalso;omega))|refine NBr.mk (fun hc=> ?_) (fun hc=> ?_)));(all_goals(conv=>whnf))
  all_goals(refine Az ?_;(repeat'(first|refine And.intro ?_ ?_|exact rfl));(all_goals(conv=>whnf)))
  all_goals(simp_all)
def LX (a b:List UInt8):Nat→List UInt8
 |0=>[]
 |1=>a
 |_+2=>a++b
def Ob (g:Gn):Option (List UInt8):=
 if(zT g.ak g.av||Al g.ak g.av)&&Al g.pk g.pv then some ((if zT g.ak g.av then [] else Ah 2 0 true (txE g.ak g.av))++Ah 2 1 true (txE g.pk g.pv)) else none
def D8 (g:Gn):Option (List UInt8):=
 if g.k=0 then(if Ej g.oid then some (Ah 0 6 false (Bm g.oid)++Ah 2 0 true g.by') else none)
 else if g.k=1∨g.k=2∨g.k=6 then(if Al 22 g.tx then some (chS 22 g.tx) else none)
 else if g.k=3∨g.k=7 then some g.by'
 else if g.k=4 then(if nmV g.nm then some (nmE g.nm) else none)
 else if g.k=5 then Ob g
 else if g.k=8 then(if Ej g.oid then some (Bm g.oid) else none)
 else none
def MO:Option (List UInt8)→AV
 |some c=> .tup [.d (Ag false c),iv 0]
 |none=> .tup [.d (Ag false []),iv 8]
structure Gn.sm (g:Gn):Prop where
 o:g.oid.length≤3000000
 t:g.tx.length≤3000000
 b:g.by'.length≤3000000
 n:nmZ g.nm
 a:g.av.length≤3000000
 p:g.pv.length≤3000000
theorem He {k:Int} {l:List UInt8} (h:Al k l=true) (hl:l.length≤3000000):(txE k l).length≤4*l.length+6:=by
 have h4:=G7 h
 have:=Aq 0 k.toNat false (chS k l) (by omega)
 unfold txE;omega
theorem FY {k:Int} {l:List UInt8} (hl:l.length≤3000000) (h:Al k l=true):Ab Tryz.prog 124 [txA k l] (fun r=>r= .tup [A4 0 5 (txE k l),iv 0]):=by
 have:=L5 k l (by omega)
 rwa[frS,if_pos h] at this
theorem FZ {k:Int} {l:List UInt8} (hl:l.length≤3000000) (h:Al k l=false):Ab Tryz.prog 124 [txA k l] (fun r=>r= .tup [Ax,iv 8]):=by
 have:=L5 k l (by omega)
 rwa[frS,if_neg (by rw[h];simp)] at this
theorem Sl {s:List UInt8} (h:Ej s=false):dD s=8∧Bm s=[]:=by
 unfold Ej at h;unfold dD Bm
 cases ha:Ed s with
 |none=>exact⟨rfl,rfl⟩
 |some a=>rw[ha] at h;cases h
theorem Kw {p:Prop} (h:p:=by first|rfl|(simp only[AV.gives,AV.ren,AV.give,D.un,D.uns,Aj,Ak,List.nil_append,List.append_nil,List.cons_append,Ap,A0,Bk,A7,Ay,Bj,Bs,Bg,A9];first|done|rfl)):p:=h
theorem Z2 (g:Gn) (hs:g.sm):Ab Tryz.prog 90 [gnA g] (fun r=>r=MO (D8 g)):=by
 obtain⟨k,oid,tx,by',nm,ak,av,pk,pv⟩:=g
 obtain⟨s1,s2,s3,s4,s5,s6⟩:=hs
 simp only at s1 s2 s3 s4 s5 s6
 have k1:=Fs oid
 have hE:=Ue oid (by omega)
 have hW:=Dk 0 6 false (Bm oid) (by omega) (by omega) (by omega)
 have hX:=I9 0 by' (by omega) (by omega)
 have hle:=Aq 2 0 true by' (by omega)
 have hlo:=Aq 0 6 false (Bm oid) (by omega)
 have hCo:=Nz [Ah 0 6 false (Bm oid),Ah 2 0 true by'] (by simp;omega) (by simp)
 rw[show [Ah 0 6 false (Bm oid),Ah 2 0 true by'].flatten=Ah 0 6 false (Bm oid)++Ah 2 0 true by' by simp] at hCo
 have hT:Ab Tryz.prog 122 [.agg [iv 22,.d (.v (.string ⟨⟨tx⟩⟩))]] (fun r=>r= .tup [.d (Ag true (Gh 22 tx)),iv (Nk 22 tx)]):=O4 22 tx (by omega)
 have hN:=rX nm s4
 unfold D8
 simp only
 rcases nA k with(h|h|h|h|h|h|h|h|h)|⟨h0,h1,h2,h3,h4,h5,h6,h7,h8⟩
 case inr=>
  have e:¬k=0∧¬(k=1∨k=2∨k=6)∧¬(k=3∨k=7)∧¬k=4∧¬k=5∧¬k=8:=by
   simp only[beq_eq_false_iff_ne] at h0 h1 h2 h3 h4 h5 h6 h7 h8;omega
  rw[if_neg e.1,if_neg e.2.1,if_neg e.2.2.1,if_neg e.2.2.2.1,if_neg e.2.2.2.2.1,if_neg e.2.2.2.2.2]
  show Ab _ _ _ (fun r=>r= .tup [.d (Ag false []),iv 8])
  refine acQ 118 Tryz.func90 rfl rfl fun _ _ _=> ?_
  (repeat'((conv=>whnf);refine Av asP ?_));(all_goals(conv=>whnf))
  all_goals exact zE
 case inl.inl=>
  subst h
  rw[if_pos rfl]
  cases ho:Ej oid
  ·rw[(Sl ho).1,(Sl ho).2] at hE
   show Ab _ _ _ (fun r=>r= .tup [.d (Ag false []),iv 8])
   refine acQ 118 Tryz.func90 rfl rfl fun _ _ _=> ?_
   (repeat'((conv=>whnf);first|refine Ac ?_|refine Aa hE rfl ?_|exact zE))
  ·rw[(Qm oid).1 ho] at hE
   show Ab _ _ _ (fun r=>r= .tup [.d (Ag false (Ah 0 6 false (Bm oid)++Ah 2 0 true by')),iv 0])
   refine acQ 118 Tryz.func90 rfl rfl fun _ _ _=> ?_
   (repeat'((conv=>whnf);first|refine Ac ?_|refine Ae ?_|refine Aa hE rfl ?_|refine Aa hW Kw ?_|refine Aa hX Kw ?_|refine Aa hCo Kw ?_|exact zE))
 case inl.inr.inr.inr.inr.inl=>
  subst h
  rw[if_neg (by decide),if_neg (by decide),if_neg (by decide),if_pos rfl]
  cases ho:nmV nm
  ·rw[if_neg (by rw[ho];simp)] at hN
   show Ab _ _ _ (fun r=>r= .tup [.d (Ag false []),iv 8])
   refine acQ 118 Tryz.func90 rfl rfl fun _ _ _=> ?_
   (repeat'((conv=>whnf);first|refine Ac ?_|refine Ae ?_|refine Aa hN Kw ?_|exact zE))
  ·rw[if_pos ho] at hN
   show Ab _ _ _ (fun r=>r= .tup [.d (Ag false (nmE nm)),iv 0])
   refine acQ 118 Tryz.func90 rfl rfl fun _ _ _=> ?_
   (repeat'((conv=>whnf);first|refine Ac ?_|refine Ae ?_|refine Aa hN Kw ?_|exact zE))
 case inl.inr.inr.inr.inr.inr.inl=>
  subst h
  rw[if_neg (by decide),if_neg (by decide),if_neg (by decide),if_neg (by decide),if_pos rfl]
  unfold Ob
  simp only
  generalize hz:zT ak av=z
  have gz':(ak==0&&av==[])=z:=hz
  generalize hpre:(if z=true then [] else Ah 2 0 true (txE ak av))=pre
  have hprel:(z||Al ak av)=true→pre.length≤13000000:=fun h=>by
   cases z
   ·rw[Bool.false_or] at h
    have h1:=He h s5
    have h2:=Aq 2 0 true (txE ak av) (by omega)
    rw[←hpre,if_neg (by simp)];omega
   ·rw[←hpre,if_pos rfl];simp
  refine acQ 118 Tryz.func90 rfl rfl fun _ _ _=> ?_
  (repeat'((conv=>whnf);first|refine Ac ?_|refine Ae ?_));(all_goals(conv=>whnf))
  refine Ba [.s 8 1 5] (fun i:Nat=>i≤2∧(1≤i→(z||Al ak av)=true)∧(2≤i→Al pk pv=true)) (fun i=>2-i) (fun i=>⟨[(1,.ptr 1 0),(8,A4 8 5 (LX pre (Ah 2 1 true (txE pk pv)) i)),(15,iv 5),(75,.d (.sl false 2 2 [iD ak,sD av,iD pk,sD pv])),(76,iv 2),(77,iv i)],[(1,[iv 5,.d (sD oid),.d (sD tx),.d (Ag false by'),.d (Fh nm),iv ak,.d (sD av),iv pk,.d (sD pv)])],[(8,((LX pre (Ah 2 1 true (txE pk pv)) i).length,1,5))]⟩) 0 ⟨by omega,by omega,by omega⟩ leQ ?_
  rintro i ⟨hi,hA,hP⟩
  match i,hi with
  |0,_=>
   cases z
   ·cases ha:Al ak av
    ·have hF:=FZ s5 ha
     rw[show((false||false)&&Al pk pv)=false by rfl,if_neg (by simp)]
     (repeat'((conv=>whnf);first|refine Ac ?_|refine Av asP ?_|refine Ox 0 ?_|refine An (Dq rfl rfl (ltN rfl) rfl rfl) ?_|refine Aa hF rfl ?_|exact zE))
    ·have hF:=FY s5 ha
     have h1:=He ha s5
     have hX:=I9 0 (txE ak av) (by omega) (by omega)
     have h2:=Aq 2 0 true (txE ak av) (by omega)
     rw[if_neg (by simp)] at hpre
     rw[←hpre]
     (repeat'((conv=>whnf);first|refine Ac ?_|refine Ae ?_|refine Av asP ?_|refine Ox 0 ?_|refine An (Dq rfl rfl (ltN rfl) rfl rfl) ?_|refine Aa hF rfl ?_|refine Aa hX Kw ?_|(refine NApp.bytes ?_ (by show([]:List UInt8).length+_≤_;simp only[List.length_nil];omega))|(with_reducible refine NInt.i64 ?_)));(all_goals(conv=>whnf))
     refine⟨1,⟨by omega,fun _=>rfl,by omega⟩,by omega,?_⟩
     exact leQ
   ·rw[if_pos rfl] at hpre
    rw[←hpre]
    (repeat'((conv=>whnf);first|refine Ac ?_|refine At asP ?_|refine Ox 0 ?_|refine An (Dq rfl rfl (ltN rfl) rfl rfl) ?_|(with_reducible refine NInt.i64 ?_)));(all_goals(conv=>whnf))
    refine⟨1,⟨by omega,fun _=>rfl,by omega⟩,by omega,?_⟩
    exact leQ
  |1,_=>
   have hA:=hA (by omega)
   have hpl:=hprel hA
   cases hp:Al pk pv
   ·have hF:=FZ s6 hp
    rw[Bool.and_false,if_neg (by simp)]
    (repeat'((conv=>whnf);first|refine Ac ?_|refine Ae ?_|refine Ox 1 ?_|refine Aa hF rfl ?_|exact zE))
   ·have hF:=FY s6 hp
    have h1:=He hp s6
    have hX:=I9 1 (txE pk pv) (by omega) (by omega)
    have h2:=Aq 2 1 true (txE pk pv) (by omega)
    (repeat'((conv=>whnf);first|refine Ac ?_|refine Ae ?_|refine Ox 1 ?_|refine Aa hF rfl ?_|refine Aa hX Kw ?_|(refine NApp.bytes ?_ (by show pre.length+_≤_;omega))|(with_reducible refine NInt.i64 ?_)));(all_goals(conv=>whnf))
    refine⟨2,⟨by omega,fun _=>hA,fun _=>rfl⟩,by omega,?_⟩
    exact leQ
  |2,_=>
   rw[hA (by omega),hP (by omega)]
   (repeat'((conv=>whnf);refine Ae ?_));(all_goals(conv=>whnf))
   all_goals exact zE
 case inl.inr.inr.inr.inr.inr.inr.inr.inr=>
  subst h
  rw[if_neg (by decide),if_neg (by decide),if_neg (by decide),if_neg (by decide),if_neg (by decide),if_pos rfl]
  cases ho:Ej oid
  ·rw[(Sl ho).1,(Sl ho).2] at hE
   show Ab _ _ _ (fun r=>r= .tup [.d (Ag false []),iv 8])
   refine acQ 118 Tryz.func90 rfl rfl fun _ _ _=> ?_
   (repeat'((conv=>whnf);first|refine Ac ?_|refine Ae ?_|refine Aa hE rfl ?_|exact zE))
  ·rw[(Qm oid).1 ho] at hE
   show Ab _ _ _ (fun r=>r= .tup [.d (Ag false (Bm oid)),iv 0])
   refine acQ 118 Tryz.func90 rfl rfl fun _ _ _=> ?_
   (repeat'((conv=>whnf);first|refine Ac ?_|refine Ae ?_|refine Aa hE rfl ?_|exact zE))
 case inl.inr.inr.inr.inl=>
  subst h
  rw[if_neg (by decide),if_neg (by decide),if_pos (by decide)]
  show Ab _ _ _ (fun r=>r= .tup [.d (Ag false by'),iv 0])
  refine acQ 118 Tryz.func90 rfl rfl fun _ _ _=> ?_
  (repeat'((conv=>whnf);first|refine Ac ?_|refine Ae ?_|exact zE))
 case inl.inr.inr.inr.inr.inr.inr.inr.inl=>
  subst h
  rw[if_neg (by decide),if_neg (by decide),if_pos (by decide)]
  show Ab _ _ _ (fun r=>r= .tup [.d (Ag false by'),iv 0])
  refine acQ 118 Tryz.func90 rfl rfl fun _ _ _=> ?_
  (repeat'((conv=>whnf);first|refine Ac ?_|refine Ae ?_|exact zE))
 all_goals
  subst h
  rw[if_neg (by decide),if_pos (by decide)]
  unfold Gh Nk at hT
  cases hv:Al 22 tx
  ·rw[hv] at hT
   show Ab _ _ _ (fun r=>r= .tup [.d (Ag false []),iv 8])
   refine acQ 118 Tryz.func90 rfl rfl fun _ _ _=> ?_
   (repeat'((conv=>whnf);first|refine Ac ?_|refine Ae ?_|refine Aa hT rfl ?_|exact zE))
  ·rw[hv] at hT
   show Ab _ _ _ (fun r=>r= .tup [.d (Ag false (chS 22 tx)),iv 0])
   refine acQ 118 Tryz.func90 rfl rfl fun _ _ _=> ?_
   (repeat'((conv=>whnf);first|refine Ac ?_|refine Ae ?_|refine Aa hT rfl ?_|exact zE))
end Go.Proofs.YtjakkpcpommojaaGreatDoor
