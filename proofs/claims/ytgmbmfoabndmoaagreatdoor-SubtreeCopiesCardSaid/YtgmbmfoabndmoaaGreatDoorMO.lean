/- MO: the texts Att Att2 Dn Dn2 GenP GenQ GenC, one behind the other. No condition but what each lemma says. -/
import Derived.Test.YtgmbmfoabndmoaaGreatDoorME
import Derived.Test.YtgmbmfoabndmoaaGreatDoorMM
import Derived.Test.YtgmbmfoabndmoaaGreatDoorMI
import Derived.Test.YtgmbmfoabndmoaaGreatDoorMJ
set_option maxRecDepth 100000
set_option maxHeartbeats 16000000
namespace Go.Proofs.YtgmbmfoabndmoaaGreatDoor
open Go.RowKit
def Jr (b:List UInt8):Nat:=(Dx b).code
def Lt (b:List UInt8):Nat:=(Dx b).off
theorem cG (b:List UInt8):Lt b≤b.length:=by
 have hF:=Fj b 16 b.length (by omega) 0 (by omega)
 dsimp only at hF
 unfold Lt Dx
 generalize A5 b 16 0 b.length=r at hF
 by_cases h:r.code=0
 ·obtain⟨s,rfl,h1,h2⟩:=hF.1 h
  by_cases h3:s.stop<b.length
  ·rw[Gu h3];exact h2
  ·rw[Jn h3];exact Nat.zero_le _
 ·obtain⟨h1,h2⟩:=hF.2 h
  obtain⟨l,c,o⟩:=r
  have hl:l=[]:=h2
  subst hl
  rw[Hy];exact h1
theorem Uq (b:List UInt8) (hb:b.length≤1000000000):(Jr b=0∧∃(a q m:Nat) (k:Bool) (l:List UInt8) (cs:List D),Aa Tryz.prog 88 [.d (Ac false b)] (fun r=>r= .tup [.agg [iv a,iv q,bv k,.d (Ac true l),.d (.sl true m 5 cs)],erA 0 0]))∨
 (Jr b≠0∧Aa Tryz.prog 88 [.d (Ac false b)] (fun r=>r= .tup [.agg [iv 0,iv 0,bv false,Ao,Ao],erA (Jr b) (Lt b)])):=by
 have hP:=oZ b hb
 unfold Jr Lt
 rcases pC b with⟨s,h⟩|⟨c,o,hc0,h⟩
 ·rw[h] at hP⊢
  obtain⟨a,q,c,n,k,b',ks⟩:=s
  exact .inl ⟨rfl,c,n,ks.length,k,b',Iz true ks,hP⟩
 ·rw[h] at hP⊢
  refine .inr ⟨hc0,?_⟩
  cases c with
  |zero=>exact absurd rfl hc0
  |succ c=>exact hP
def Ur (b:List UInt8):List UInt8:=(b.drop (At b).x.body).take ((At b).x.stop-(At b).x.body)
def Re (b:List UInt8):Bool:=(At b).code==0&&((At b).x.c==0&& !(At b).x.k)
def Mz (b:List UInt8):Int:=if Re b then Ed (At b).x.n (Ur b) else 0
def Qf (b:List UInt8):List UInt8:=if Re b then Bs (At b).x.n (Ur b) else []
def Y2 (b:List UInt8):Bool:=Re b&&Cw (At b).x.n (Ur b)==0
theorem uV (b:List UInt8):(Ur b).length≤b.length:=by
 unfold Ur;rw[List.length_take,List.length_drop];omega
theorem Kc {p:Prop} (h:p:=by first|rfl|(simp only[AV.gives,AV.ren,AV.give,D.un,D.uns,Ah,Ai,List.nil_append,List.append_nil,List.cons_append,Am,Et,Eu,A1,As,Bx];first|done|rfl)):p:=h
theorem Y3 (b:List UInt8) (hb:b.length≤1000000):Aa Tryz.prog 170 [.d (Ac false b)] (fun r=>r= .tup [txA (Mz b) (Qf b),bv (Y2 b)]):=by
 have hO:=Mc b (by omega)
 have hF:=De b
 have hD:=J6 (At b).x.n (Ur b) (by have:=uV b;omega)
 unfold Mz Qf Y2
 have gs:Re b=((At b).code==0&&((At b).x.c==0&& !(At b).x.k)):=rfl
 unfold Ur at hD⊢
 generalize Re b=q at gs⊢
 generalize At b=r at hO hF hD gs⊢
 obtain⟨⟨c,n,k,p,body,stop⟩,cd,of⟩:=r
 simp only at hF hD gs⊢
 by_cases h1:cd=0
 case neg=>
  have g1:((cd:Int) !=0)=true:=by rw[bne_iff_ne];omega
  have gq:q=false:=by rw[gs,show(cd==0)=false by rw[beq_eq_false_iff_ne];exact h1];rfl
  subst gq
  refine acQ 41 Tryz.func170 rfl rfl fun _ _ _=> ?_
  (repeat'((conv=>whnf);first|refine NBr.yes ?_|refine NBr.pos asP ?_|refine NCall.eq hO Kc ?_));(all_goals(conv=>whnf))
  all_goals exact NEnd.eq leQ
 subst h1
 by_cases h2:c=0
 case neg=>
  have g1:((c:Int) !=0)=true:=by rw[bne_iff_ne];omega
  have gq:q=false:=by rw[gs,show(c==0)=false by rw[beq_eq_false_iff_ne];exact h2];rfl
  subst gq
  refine acQ 41 Tryz.func170 rfl rfl fun _ _ _=> ?_
  (repeat'((conv=>whnf);first|refine NBr.yes ?_|refine NBr.no ?_|refine NBr.pos asP ?_|refine NCall.eq hO Kc ?_));(all_goals(conv=>whnf))
  all_goals exact NEnd.eq leQ
 subst h2
 cases k
 ·have gq:q=true:=gs
  subst gq
  generalize Ed n ((b.drop body).take (stop-body))=K at hD⊢
  generalize Bs n ((b.drop body).take (stop-body))=V at hD⊢
  generalize Cw n ((b.drop body).take (stop-body))=Z at hD⊢
  refine acQ 41 Tryz.func170 rfl rfl fun _ _ _=> ?_
  (repeat'((conv=>whnf);first|refine NBr.no ?_|refine NCall.eq hO Kc ?_|refine NSl.slice (body) (stop) ?_|refine NCall.eq hD Kc ?_|refine NFact.go ⟨by decide+kernel,by kernel_rfl⟩ ?_));(all_goals(conv=>whnf))
  all_goals exact NEnd.eq leQ
 ·have gq:q=false:=gs
  subst gq
  refine acQ 41 Tryz.func170 rfl rfl fun _ _ _=> ?_
  (repeat'((conv=>whnf);first|refine NBr.yes ?_|refine NBr.no ?_|refine NCall.eq hO Kc ?_));(all_goals(conv=>whnf))
  all_goals exact NEnd.eq leQ
def txE (k:Int) (l:List UInt8):List UInt8:=Ae 0 k.toNat false (chS k l)
def frS (k:Int) (l:List UInt8):AV:=if Af k l=true then .tup [Aq 0 5 (txE k l),iv 0] else .tup [Ao,iv 8]
theorem Pf {k:Int} {l:List UInt8} (h:Af k l=true):∃n:Nat,12≤n∧n≤30∧k=n:=by
 have hk:¬Ag k<0:=fun hw=>by rw[Kx hw] at h;cases h
 rcases Cn k hk with h|h|h|h|h|h|h<;>exact⟨k.toNat,by omega,by omega,by omega⟩
theorem Fk {k:Int} {l:List UInt8} (h:Af k l=true):(chS k l).length≤4*l.length:=by
 have hv:Go.Lib.validD l=true:=by unfold Af at h;simp at h;exact h.1.1
 rw[←I4 h]
 have hl:(rns l).length≤l.length:=by
  have:=congrArg List.length (Hf l hv)
  have h1:∀q:List Nat,q.length≤(q.flatMap enc).length:=by
   intro q
   induction q with
   |nil=>simp
   |cons a r ih=>rw[List.flatMap_cons,List.length_append,List.length_cons];have:=(Fa a).1;omega
  have:=h1 (rns l)
  omega
 have hw:Ag k≤4:=by unfold Ag;(repeat' split)<;>omega
 have h2:∀q:List Nat,(q.flatMap (H4 (Ag k))).length≤4*q.length:=by
  intro q
  induction q with
  |nil=>simp
  |cons a r ih=>rw[List.flatMap_cons,List.length_append,List.length_cons];have:=Ky (Ag k) a hw;omega
 have:=h2 (rns l)
 omega
theorem Lu (k:Int) (l:List UInt8) (hl:l.length≤16777216):Aa Tryz.prog 62 [txA k l] (fun r=>r=frS k l):=by
 have hE:=J5 k l (by omega)
 unfold frS
 unfold Dl Gy at hE
 by_cases hv:Af k l=true
 ·rw[if_pos hv]
  rw[if_pos hv,if_pos hv] at hE
  obtain⟨n,n1,n2,rfl⟩:=Pf hv
  have h4:=Fk hv
  have hW:=Jp 0 n false (chS (n:Int) l) (by omega) n2 (by omega)
  have e:txE (n:Int) l=Ae 0 n false (chS (n:Int) l):=by unfold txE;rw[Int.toNat_natCast]
  rw[e]
  refine acQ 20 Tryz.func62 rfl rfl fun _ _ _=> ?_
  (repeat'((conv=>whnf);first|refine NBr.no ?_|refine NCall.eq hE rfl ?_|refine NCall.eq hW Kc ?_));(all_goals(conv=>whnf))
  all_goals exact NEnd.eq leQ
 ·rw[if_neg hv]
  rw[if_neg hv,if_neg hv] at hE
  refine acQ 20 Tryz.func62 rfl rfl fun _ _ _=> ?_
  (repeat'((conv=>whnf);first|refine NBr.yes ?_|refine NCall.eq hE rfl ?_));(all_goals(conv=>whnf))
  all_goals exact NEnd.eq leQ
theorem uW (k:Int):Aa Tryz.prog 171 [iv k] (fun r=>r=bv (k==22||k==26)):=by
 refine acQ 9 Tryz.func171 rfl rfl fun _ _ _=> ?_
 (repeat'((conv=>whnf);first|refine NBr.yes ?_|refine NBr.no ?_|(refine NBr.dec (fun hc hcP=> ?_) (fun hc hcP=> ?_)<;>try(exfalso;omega))));(all_goals(conv=>whnf))
 all_goals(refine NEnd.eq ?_;(repeat'(first|refine And.intro ?_ ?_|exact rfl));(all_goals(conv=>whnf)))
 all_goals(simp_all)
def Fd (b:List UInt8):Bool:=Y2 b&&(!(Qf b==[])&& !(Mz b==22||Mz b==26))
def EF (b:List UInt8):AV:=if Fd b=true then .tup [txA (Mz b) (Qf b),bv true] else .tup [txA 0 [],bv false]
theorem Vr (b:List UInt8) (hb:b.length≤1000000):Aa Tryz.prog 142 [.d (Ac false b)] (fun r=>r=EF b):=by
 have hS:=Y3 b hb
 have h1:=uW (Mz b)
 unfold EF
 have gs:Fd b=(Y2 b&&(!(Qf b==[])&& !(Mz b==22||Mz b==26))):=rfl
 generalize Fd b=q at gs⊢
 generalize Mz b=K at hS h1 gs⊢
 generalize Qf b=V at hS gs⊢
 generalize Y2 b=Z at hS gs
 generalize (K==22||K==26)=O at h1 gs
 cases Z
 ·subst gs
  refine acQ 27 Tryz.func142 rfl rfl fun _ _ _=> ?_
  (repeat'((conv=>whnf);first|refine NBr.yes ?_|refine NCall.eq hS Kc ?_));(all_goals(conv=>whnf))
  all_goals exact NEnd.eq leQ
 ·cases hv:(V==[])
  ·rw[hv] at gs
   cases O
   all_goals
    subst gs
    refine acQ 27 Tryz.func142 rfl rfl fun _ _ _=> ?_
    (repeat'((conv=>whnf);first|refine NBr.yes ?_|refine NBr.no ?_|refine NBr.neg asP ?_|refine NCall.eq hS Kc ?_|refine NCall.eq h1 rfl ?_));(all_goals(conv=>whnf))
    all_goals exact NEnd.eq leQ
  ·rw[hv] at gs
   subst gs
   refine acQ 27 Tryz.func142 rfl rfl fun _ _ _=> ?_
   (repeat'((conv=>whnf);first|refine NBr.yes ?_|refine NBr.no ?_|refine NBr.pos asP ?_|refine NCall.eq hS Kc ?_));(all_goals(conv=>whnf))
   all_goals exact NEnd.eq leQ
def atV (a:Att):Bool:=Dz a.oid&&Dj a.val
theorem R8 (b:List UInt8):Dj b=(Jr b==0):=rfl
theorem Ck {p:Prop} (h:p:=by first|rfl|(simp only[AV.gives,AV.ren,AV.give,D.un,D.uns,Ah,Ai,List.nil_append,List.append_nil,List.cons_append,Am,Et,Eu,A1,As,Bx];first|done|rfl)):p:=h
theorem cH (a:Att) (ho:a.oid.length≤4000000) (hv:a.val.length≤1000000000):Aa Tryz.prog 164 [atA a] (fun r=>r=bv (atV a)):=by
 have hV:=Yo a.oid ho
 unfold atV
 rw[R8]
 generalize Dz a.oid=V at hV⊢
 rcases Uq a.val hv with⟨h1,ta,tq,tm,tk,tl,tcs,hT⟩|⟨h1,hT⟩
 ·rw[h1]
  cases V
  all_goals
   refine acQ 19 Tryz.func164 rfl rfl fun _ _ _=> ?_
   (repeat'((conv=>whnf);first|refine NBr.yes ?_|refine NBr.no ?_|refine NCall.eq hT Ck ?_|refine NCall.eq hV rfl ?_));(all_goals(conv=>whnf))
   all_goals exact NEnd.eq leQ
 ·generalize Lt a.val=tO at hT
  generalize Jr a.val=tc at hT h1⊢
  have g1:((tc:Int)==0)=false:=by rw[beq_eq_false_iff_ne];omega
  have g2:(tc==0)=false:=by rw[beq_eq_false_iff_ne];exact h1
  cases V
  all_goals
   refine acQ 19 Tryz.func164 rfl rfl fun _ _ _=> ?_
   (repeat'((conv=>whnf);first|refine NBr.yes ?_|refine NBr.no ?_|refine NCall.eq hT Ck ?_|refine NCall.eq hV rfl ?_));(all_goals(conv=>whnf))
   all_goals(refine NEnd.eq ?_;(repeat'(first|exact Ak _|refine And.intro ?_ ?_|exact rfl));(all_goals(conv=>whnf)))
  all_goals(rw[g1,g2];try rfl)
def atE (a:Att):List UInt8:=Ae 0 16 true (Ae 0 6 false (Au a.oid)++a.val)
theorem R9 {a:Att} (h:atV a=true):Dz a.oid=true∧Dj a.val=true:=by
 unfold atV at h;simpa using h
theorem Vs (a:Att) (ho:a.oid.length≤4000000) (hv:a.val.length≤100000000):Aa Tryz.prog 135 [atA a] (fun r=>r=if atV a=true then .tup [Aq 0 5 (atE a),iv 0] else .tup [Ao,iv 8]):=by
 have hV:=cH a ho (by omega)
 by_cases h:atV a=true
 ·rw[if_pos h]
  rw[h] at hV
  have hE:=Ud a.oid ho
  rw[(Qa a.oid).1 (R9 h).1] at hE
  have k1:=D5 a.oid
  have hW:=Jp 0 6 false (Au a.oid) (by omega) (by omega) (by omega)
  have k2:=Al 0 6 false (Au a.oid) (by omega)
  have hQ:=J4 [Ae 0 6 false (Au a.oid),a.val] (by simp;omega) (by simp)
  rw[show Ae 0 16 true [Ae 0 6 false (Au a.oid),a.val].flatten=atE a by simp[atE]] at hQ
  refine acQ 35 Tryz.func135 rfl rfl fun _ _ _=> ?_
  (repeat'((conv=>whnf);first|refine NBr.no ?_|refine NCall.eq hV Ck ?_|refine NCall.eq hE rfl ?_|refine NCall.eq hW Ck ?_|refine NCall.eq hQ Ck ?_));(all_goals(conv=>whnf))
  all_goals exact NEnd.eq leQ
 ·rw[if_neg h]
  rw[show atV a=false by simpa using h] at hV
  refine acQ 35 Tryz.func135 rfl rfl fun _ _ _=> ?_
  (repeat'((conv=>whnf);first|refine NBr.yes ?_|refine NCall.eq hV Ck ?_));(all_goals(conv=>whnf))
  all_goals exact NEnd.eq leQ
def atO (b:List UInt8):Option Att:=match cC b with
 |some (id,s)=>if Dj s=true then some ⟨id,s⟩ else none
 |none=>none
def Us (b:List UInt8) (r:LR):Nat×Nat:=if r.code≠0 then(r.code,r.off) else match r.l with
 |[x,y]=>if x.isB 0 6 false=false then(3,x.at') else if odC (bod b x)≠0 then(odC (bod b x),x.body) else(Jr (elO b y),y.at'+Lt (elO b y))
 |_::_::z::_=>(2,z.at')
 |_=>(1,b.length)
def atU (a:Att):List D:=[sD a.oid,Ac true a.val]
def atR (o:Option Att) (e:Nat×Nat):AV:=match o with
 |some a=> .tup [.agg [sx a.oid,.d (Ac true a.val)],erA 0 0]
 |none=> .tup [.agg [sx [],Ao],erA e.1 e.2]
theorem Fe (c o:Int):Aa Tryz.prog 224 [iv c,iv o] (fun r=>r= .tup [.agg [sx [],Ao],.agg [iv c,iv o]]):=by
 refine acQ 10 Tryz.func224 rfl rfl fun _ _ _=> ?_
 (all_goals(conv=>whnf))
 all_goals exact NEnd.eq leQ
theorem cI (b:List UInt8) (hb:b.length≤800000):Aa Tryz.prog 204 [.d (Ac false b)] (fun r=>r=atR (atO b) (Us b (Ar b 0 16))):=by
 have hP:=Je b 0 16 (by omega)
 have hin:=fun x=>D9 (b:=b) (c:=0) (n:=16) (x:=x)
 have hO:atO b=match cB b (Ar b 0 16) with
  |some (id,s)=>if Dj s=true then some ⟨id,s⟩ else none
  |none=>none:=rfl
 generalize Ar b 0 16=r at hP hin hO⊢
 by_cases h1:r.code≠0
 ·rw[Yz (.inl h1)] at hO
  rw[hO]
  have hF:=Fe r.code r.off
  rw[lrA,if_pos h1] at hP
  have gc:((r.code:Int) !=0)=true:=by rw[bne_iff_ne];omega
  rw[Us,if_pos h1]
  generalize r.code=c at hP gc hF
  generalize r.off=o at hP hF
  refine acQ 127 Tryz.func204 rfl rfl fun _ _ _=> ?_
  (repeat'((conv=>whnf);first|refine NBr.pos asP ?_|refine NCall.eq hP Ck ?_|refine NCall.eq hF rfl ?_));(all_goals(conv=>whnf))
  all_goals exact NEnd.eq leQ
 rw[lrA,if_neg h1] at hP
 rw[Us,if_neg h1]
 obtain⟨l,c,o⟩:=r
 obtain rfl:c=0:=Decidable.not_not.1 h1
 match l with
 |[]=>
  have e:atO b=none:=hO
  rw[e]
  have hF:=Fe 1 b.length
  refine acQ 127 Tryz.func204 rfl rfl fun _ _ _=> ?_
  (repeat'((conv=>whnf);first|refine NBr.yes ?_|refine NBr.no ?_|refine NCall.eq hP Ck ?_|refine NCall.eq hF rfl ?_));(all_goals(conv=>whnf))
  all_goals exact NEnd.eq leQ
 |[x]=>
  have e:atO b=none:=hO
  rw[e]
  have hF:=Fe 1 b.length
  refine acQ 127 Tryz.func204 rfl rfl fun _ _ _=> ?_
  (repeat'((conv=>whnf);first|refine NBr.yes ?_|refine NBr.no ?_|refine NCall.eq hP Ck ?_|refine NCall.eq hF rfl ?_));(all_goals(conv=>whnf))
  all_goals exact NEnd.eq leQ
 |x::y::z::q=>
  have e:atO b=none:=hO
  rw[e]
  have hF:=Fe 2 z.at'
  have g2:(x::y::z::q:List El)[2]?=some z:=rfl
  refine acQ 127 Tryz.func204 rfl rfl fun _ _ _=> ?_
  (repeat'((conv=>whnf);first|refine NBr.no ?_|refine NCall.eq hP Ck ?_|refine NIdx.tab (fun _=>rfl) g2 ?_|refine NCall.eq hF rfl ?_|(refine NBr.mk (fun hc=> ?_) (fun hc=> ?_)<;>(have hcP:=hc;(try simp only[List.length_cons,decide_eq_true_eq,decide_eq_false_iff_not] at hcP)<;>first|(exfalso;omega)|skip))));(all_goals(conv=>whnf))
  all_goals exact NEnd.eq leQ
 |[x,y]=>
  obtain⟨x1,x2,x3⟩:=hin x (by simp)
  obtain⟨y1,y2,y3⟩:=hin y (by simp)
  have hI:=Tg x 0 6 false
  have hlb:(bod b x).length≤b.length:=by unfold bod;rw[List.length_take,List.length_drop];omega
  have hly:(elO b y).length≤b.length:=by unfold elO;rw[List.length_take,List.length_drop];omega
  have hD:=Ny (bod b x) (by omega)
  have hC:=Md (elO b y) (by omega)
  have hT:=Uq (elO b y) (by omega)
  have hto:=cG (elO b y)
  have hop:=R8 (elO b y)
  have g0:([x,y]:List El)[0]?=some x:=rfl
  have g1:([x,y]:List El)[1]?=some y:=rfl
  have hO':atO b=match(if x.isB 0 6 false=true∧odC (bod b x)=0 then some (odT (bod b x),elO b y) else none:Option (List UInt8×List UInt8)) with
   |some (id,s)=>if Dj s=true then some ⟨id,s⟩ else none
   |none=>none:=hO
  show Aa _ _ _ (fun r=>r=atR (atO b) (if x.isB 0 6 false=false then(3,x.at') else if odC (bod b x)≠0 then(odC (bod b x),x.body) else(Jr (elO b y),y.at'+Lt (elO b y))))
  cases hi:x.isB 0 6 false
  ·rw[hi] at hI hO'
   rw[if_neg (by simp)] at hO'
   rw[hO',if_pos rfl]
   have hF:=Fe 3 x.at'
   refine acQ 127 Tryz.func204 rfl rfl fun _ _ _=> ?_
   (repeat'((conv=>whnf);first|refine NBr.yes ?_|refine NBr.no ?_|refine NCall.eq hP Ck ?_|refine NIdx.tab (fun _=>rfl) g0 ?_|refine NCall.eq hI rfl ?_|refine NCall.eq hF rfl ?_));(all_goals(conv=>whnf))
   all_goals exact NEnd.eq leQ
  rw[hi] at hI hO'
  rw[if_neg (by simp)]
  by_cases h3:odC (bod b x)=0
  ·rw[if_pos ⟨rfl,h3⟩] at hO'
   rw[if_neg (by omega)]
   have hO2:atO b=if Dj (elO b y)=true then some ⟨odT (bod b x),elO b y⟩ else none:=hO'
   rw[My,h3] at hD
   rw[hop] at hO2
   unfold bod at hD hlb hO2
   generalize odT ((b.drop x.body).take (x.stop-x.body))=ot at hD hO2
   unfold elO at hC hT hto hly hO2⊢
   rcases hT with⟨h4,ta,tq,tm,tk,tl,tcs,hT⟩|⟨h4,hT⟩
   ·rw[h4] at hO2
    rw[if_pos (by rfl)] at hO2
    rw[hO2]
    refine acQ 127 Tryz.func204 rfl rfl fun _ _ _=> ?_
    (repeat'((conv=>whnf);first|refine NBr.no ?_|refine NCall.eq hP Ck ?_|refine NIdx.tab (fun _=>rfl) g0 ?_|refine NIdx.tab (fun _=>rfl) g1 ?_|refine NCall.eq hI rfl ?_|refine NSl.slice (x.body) (x.stop) ?_|refine NSl.slice (y.at') (y.stop) ?_|refine NCall.eq hD Ck ?_|refine NCall.eq hC Ck ?_|refine NCall.eq hT Ck ?_|refine NFact.go ⟨by decide+kernel,by kernel_rfl⟩ ?_));(all_goals(conv=>whnf))
    all_goals exact NEnd.eq leQ
   ·rw[if_neg (by rw[beq_iff_eq];exact h4)] at hO2
    rw[hO2]
    have gd:((Jr ((b.drop y.at').take (y.stop-y.at')):Int) !=0)=true:=by rw[bne_iff_ne];omega
    have hF:=Fe (Jr ((b.drop y.at').take (y.stop-y.at'))) ((y.at'+Lt ((b.drop y.at').take (y.stop-y.at')):Nat):Int)
    generalize Lt ((b.drop y.at').take (y.stop-y.at'))=tO at hT hto hF⊢
    generalize Jr ((b.drop y.at').take (y.stop-y.at'))=tC at hT h4 gd hF⊢
    refine acQ 127 Tryz.func204 rfl rfl fun _ _ _=> ?_
    (repeat'((conv=>whnf);first|refine NBr.no ?_|refine NBr.pos asP ?_|refine NCall.eq hP Ck ?_|refine NIdx.tab (fun _=>rfl) g0 ?_|refine NIdx.tab (fun _=>rfl) g1 ?_|refine NCall.eq hI rfl ?_|refine NSl.slice (x.body) (x.stop) ?_|refine NSl.slice (y.at') (y.stop) ?_|refine NCall.eq hD Ck ?_|refine NCall.eq hC Ck ?_|refine NCall.eq hT Ck ?_|refine NInt.as (((y.at'+tO:Nat):Int)) ((by rw[IntWalk.i64_in _ (by omega)];omega)) ?_|refine NCall.eq hF rfl ?_|refine NFact.go ⟨by decide+kernel,by kernel_rfl⟩ ?_));(all_goals(conv=>whnf))
    all_goals exact NEnd.eq leQ
  ·rw[if_neg (fun h=>h3 h.2)] at hO'
   rw[hO',if_pos h3]
   have gd:((odC (bod b x):Int) !=0)=true:=by rw[bne_iff_ne];omega
   have hF:=Fe (odC (bod b x)) x.body
   rw[My] at hD
   unfold bod at hD gd hF⊢
   generalize odC ((b.drop x.body).take (x.stop-x.body))=oc at hD gd hF⊢
   generalize odT ((b.drop x.body).take (x.stop-x.body))=ot at hD
   refine acQ 127 Tryz.func204 rfl rfl fun _ _ _=> ?_
   (repeat'((conv=>whnf);first|refine NBr.no ?_|refine NBr.pos asP ?_|refine NCall.eq hP Ck ?_|refine NIdx.tab (fun _=>rfl) g0 ?_|refine NCall.eq hI rfl ?_|refine NSl.slice (x.body) (x.stop) ?_|refine NCall.eq hD Ck ?_|refine NCall.eq hF rfl ?_|refine NFact.go ⟨by decide+kernel,by kernel_rfl⟩ ?_));(all_goals(conv=>whnf))
   all_goals exact NEnd.eq leQ
theorem cJ (b:List UInt8):atO b=none→(Us b (Ar b 0 16)).1≠0∧(Us b (Ar b 0 16)).2≤b.length:=by
 have hin:=fun x=>D9 (b:=b) (c:=0) (n:=16) (x:=x)
 have hoff:=Ka b 0 16
 have hO:atO b=match cB b (Ar b 0 16) with
  |some (id,s)=>if Dj s=true then some ⟨id,s⟩ else none
  |none=>none:=rfl
 rw[hO]
 generalize Ar b 0 16=r at hin hoff⊢
 intro h
 unfold Us
 by_cases h1:r.code≠0
 ·rw[if_pos h1];exact⟨h1,hoff⟩
 rw[if_neg h1]
 obtain⟨l,c,o⟩:=r
 obtain rfl:c=0:=Decidable.not_not.1 h1
 match l with
 |[]=>exact⟨by simp,Nat.le_refl _⟩
 |[x]=>exact⟨by simp,Nat.le_refl _⟩
 |x::y::z::q=>
  have:=hin z (by simp)
  exact⟨by simp,by show z.at'≤_;omega⟩
 |[x,y]=>
  have hx:=hin x (by simp)
  have hy:=hin y (by simp)
  have hl:(elO b y).length≤y.stop-y.at':=by unfold elO;rw[List.length_take];omega
  have hto:=cG (elO b y)
  have h':(match(if x.isB 0 6 false=true∧odC (bod b x)=0 then some (odT (bod b x),elO b y) else none:Option (List UInt8×List UInt8)) with
   |some (id,s)=>if Dj s=true then some (⟨id,s⟩:Att) else none
   |none=>none)=none:=h
  simp only
  cases hi:x.isB 0 6 false
  ·rw[if_pos rfl];exact⟨by simp,by show x.at'≤_;omega⟩
  rw[if_neg (by simp)]
  by_cases h3:odC (bod b x)=0
  ·rw[if_neg (by omega)]
   rw[if_pos ⟨hi,h3⟩] at h'
   have h2:(if Dj (elO b y)=true then some (⟨odT (bod b x),elO b y⟩:Att) else none)=none:=h'
   rw[R8] at h2
   refine⟨fun e=> ?_,by show y.at'+Lt (elO b y)≤_;omega⟩
   have e:Jr (elO b y)=0:=e
   rw[e,if_pos (by rfl)] at h2;cases h2
  ·rw[if_pos h3];exact⟨h3,by show x.body≤_;omega⟩
def E0 (r:List Att):Bool:= !r.isEmpty&&(r.all atV&&Ft (r.map atE))
def Bw (r:List Att):List UInt8:=Ae 0 17 true (r.map atE).flatten
def nmV (n:List (List Att)):Bool:=n.all E0
def nmE (n:List (List Att)):List UInt8:=Ae 0 16 true (n.map Bw).flatten
theorem Sa {r:List Att} (h:E0 r=true):r≠[]∧r.all atV=true∧Ft (r.map atE)=true:=by
 unfold E0 at h
 simp only[Bool.and_eq_true] at h
 exact⟨by rintro rfl;simp at h,h.2.1,h.2.2⟩
theorem Y4 {α:Type} {f:α→Bool} {l:List α} {i:Nat} {x:α} (h:l[i]?=some x) (hf:f x=false):l.all f=false:=by
 cases hh:l.all f with
 |false=>rfl
 |true=>rw[List.all_eq_true.1 hh x (List.mem_of_getElem? h)] at hf;cases hf
theorem Js {p:Prop} (h:p:=by first|rfl|(simp only[AV.gives,AV.ren,AV.give,D.un,D.uns,Ah,Ai,List.nil_append,List.append_nil,List.cons_append,List.map_cons,List.map_nil,AV.frzs,AV.frz,List.drop_zero,Am,Et,Eu,A1,As,Bx,Ce,Br];first|done|rfl)):p:=h
theorem iJ (r:List Att) (i:Nat) {x:Att} (hg:r[i]?=some x) (hx:x.oid.length≤4000000∧x.val.length≤100000000):Aa Tryz.prog 134 [iv i,.d (.cp false [J7 r])] (fun r=>r=if atV x=true then .tup [Aq 0 5 (atE x),iv 0] else .tup [Ao,iv 8]):=by
 have hM:=Vs x hx.1 hx.2
 by_cases h:atV x=true
 all_goals
  first|rw[if_pos h] at hM⊢ |rw[if_neg h] at hM⊢
  refine acQ 12 Tryz.func134 rfl rfl fun _ _ _=> ?_
  (repeat'((conv=>whnf);first|refine NIdx.tab (fun _=>rfl) hg ?_|refine NCall.eq hM Js ?_));(all_goals(conv=>whnf))
  all_goals exact NEnd.eq leQ
theorem Y5 (r:List Att) (hl:r.length≤100000) (hs:∀x∈r,x.oid.length≤4000000∧x.val.length≤100000000) (hq:(r.map atE).flatten.length≤100000000) (hp:∀x∈r,(atE x).length≤100000000):Aa Tryz.prog 94 [.agg [iv 17,bv true],iv r.length,.cl 134 [] [.d (.cp false [J7 r])]] (fun q=>q=if r.all atV=true∧Ft (r.map atE)=true then .tup [Aq 0 5 (Ae 0 17 true (r.map atE).flatten),iv 0] else .tup [Ao,iv 8]):=by
 have hW:=Hu 0 17 true (r.map atE) (by omega) (by omega) (by omega) (by rw[List.length_map];omega)
 have hO2:=Q4 (r.map atE) (by rw[List.length_map];omega) (fun p hp0=>by
  obtain⟨x,hx,rfl⟩:=List.mem_map.1 hp0
  have:=hp x hx;omega)
 refine acQ 43 Tryz.func94 rfl rfl fun _ _ _=> ?_
 (all_goals(conv=>whnf))
 refine NLoop.goA [.s 8 1 27] (fun i:Nat=>i≤r.length∧(r.take i).all atV=true) (fun i=>r.length-i) (fun i=>⟨[(2,.cl 134 [] [.d (.cp false [J7 r])]),(3,.ptr 3 0),(8,Ce 8 1 27 Dk ((r.take i).map atE)),(12,iv r.length),(13,iv i)],[(3,[iv 17,bv true])],[(8,(((r.take i).map atE).length,1,27))]⟩) 0 ⟨by omega,rfl⟩ leQ ?_
 rintro i ⟨hi,ha⟩
 have hml:((r.take i).map atE).length≤100000:=by rw[List.length_map,List.length_take];omega
 by_cases hik:i<r.length
 ·have gi:decide ((i:Int)<r.length)=true:=decide_eq_true (by omega)
  obtain⟨x,hg⟩:∃p,r[i]?=some p:=⟨_,List.getElem?_eq_getElem hik⟩
  have hO:=iJ r i hg (hs x (List.mem_of_getElem? hg))
  cases hv:atV x
  ·rw[hv,if_neg (by simp)] at hO
   rw[if_neg (by rintro⟨h,-⟩;rw[Y4 hg hv] at h;cases h)]
   (repeat'((conv=>whnf);first|refine NBr.yes ?_|refine NBr.pos asP ?_|refine NCall.eq hO Js ?_));(all_goals(conv=>whnf))
   all_goals exact NEnd.eq leQ
  ·rw[hv,if_pos rfl] at hO
   have hs':=E6 atE hg
   (repeat'((conv=>whnf);first|refine NBr.no ?_|refine NBr.pos asP ?_|refine NCall.eq hO Js ?_|refine NApp.one Dk (atE x) ?_|(with_reducible refine NInt.i64 ?_)));(all_goals(conv=>whnf))
   refine⟨i+1,⟨by omega,Hb atV hg hv ha⟩,by omega,?_⟩
   rw[hs']
   exact leQ
 ·have gi:decide ((i:Int)<r.length)=false:=decide_eq_false (by omega)
  obtain rfl:i=r.length:=by omega
  rw[List.take_length] at ha⊢
  cases ho:Ft (r.map atE)
  ·rw[ho] at hO2
   rw[if_neg (by rintro⟨-,h⟩;cases h)]
   (repeat'((conv=>whnf);first|refine NBr.yes ?_|refine NBr.neg asP ?_|refine NCall.eq hO2 Js ?_));(all_goals(conv=>whnf))
   all_goals exact NEnd.eq leQ
  ·rw[ho] at hO2
   rw[if_pos ⟨ha,rfl⟩]
   (repeat'((conv=>whnf);first|refine NBr.yes ?_|refine NBr.no ?_|refine NBr.neg asP ?_|refine NCall.eq hO2 Js ?_|refine NCall.eq hW Js ?_));(all_goals(conv=>whnf))
   all_goals exact NEnd.eq leQ
structure Att.sm (a:Att):Prop where
 o:a.oid.length≤3000000
 v:a.val.length≤3000000
theorem Y6 {a:Att} (h:a.sm):(atE a).length≤a.oid.length*5+a.val.length+20:=by
 have h1:=D5 a.oid
 have:=h.o
 have:=h.v
 have h2:=Al 0 6 false (Au a.oid) (by omega)
 have h3:=Al 0 16 true (Ae 0 6 false (Au a.oid)++a.val) (by rw[List.length_append];omega)
 rw[List.length_append] at h3
 have e:(atE a).length=(Ae 0 16 true (Ae 0 6 false (Au a.oid)++a.val)).length:=rfl
 omega
structure rdnZ (r:List Att):Prop where
 l:r.length≤100000
 a:∀a∈r,a.sm
 e:(r.map atE).flatten.length≤90000000
structure nmZ (n:List (List Att)):Prop where
 l:n.length≤100000
 r:∀r∈n,rdnZ r
 e:(n.map Bw).flatten.length≤90000000
theorem iK (r:List Att) (hz:rdnZ r):Aa Tryz.prog 96 [.d (J7 r)] (fun q=>q=if E0 r=true then .tup [Aq 0 5 (Bw r),iv 0] else .tup [Ao,iv 8]):=by
 obtain⟨hl,hs,hq⟩:=hz
 have hS:=Y5 r (by omega) (fun a ha=>by have:=(hs a ha).o;have:=(hs a ha).v;exact⟨by omega,by omega⟩) (by omega) (fun a ha=>by have:=Y6 (hs a ha);have:=(hs a ha).o;have:=(hs a ha).v;omega)
 cases r with
 |nil=>
  show Aa _ _ _ (fun q=>q= .tup [Ao,iv 8])
  refine acQ 17 Tryz.func96 rfl rfl fun _ _ _=> ?_
  (repeat'((conv=>whnf);refine NBr.yes ?_));(all_goals(conv=>whnf))
  all_goals exact NEnd.eq leQ
 |cons a q=>
  have gl:(((a::q).length:Int)==0)=false:=by rw[beq_eq_false_iff_ne,List.length_cons];omega
  by_cases h:E0 (a::q)=true
  ·rw[if_pos h]
   rw[if_pos (Sa h).2] at hS
   unfold Bw
   generalize (a::q)=r at hS gl
   refine acQ 17 Tryz.func96 rfl rfl fun _ _ _=> ?_
   (repeat'((conv=>whnf);first|refine NBr.neg asP ?_|refine NCall.eq hS Js ?_));(all_goals(conv=>whnf))
   all_goals exact NEnd.eq leQ
  ·rw[if_neg h]
   rw[if_neg (fun k=>h (by unfold E0;rw[k.1,k.2];rfl))] at hS
   generalize (a::q)=r at hS gl
   refine acQ 17 Tryz.func96 rfl rfl fun _ _ _=> ?_
   (repeat'((conv=>whnf);first|refine NBr.neg asP ?_|refine NCall.eq hS Js ?_));(all_goals(conv=>whnf))
   all_goals exact NEnd.eq leQ
theorem uX {r:List Att} (hz:rdnZ r):(Bw r).length≤(r.map atE).flatten.length+6:=by
 have hq:=hz.e
 have:=Al 0 17 true (r.map atE).flatten (by omega)
 unfold Bw;omega
theorem pG (r:List (List Att)) (i:Nat) {x:List Att} (hg:r[i]?=some x) (hx:rdnZ x):Aa Tryz.prog 95 [iv i,.d (.cp false [Ey r])] (fun r=>r=if E0 x=true then .tup [Aq 0 5 (Bw x),iv 0] else .tup [Ao,iv 8]):=by
 have hM:=iK x hx
 by_cases h:E0 x=true
 all_goals
  first|rw[if_pos h] at hM⊢ |rw[if_neg h] at hM⊢
  refine acQ 12 Tryz.func95 rfl rfl fun _ _ _=> ?_
  (repeat'((conv=>whnf);first|refine NIdx.tab (fun _=>rfl) hg ?_|refine NCall.eq hM Js ?_));(all_goals(conv=>whnf))
  all_goals exact NEnd.eq leQ
theorem cK (r:List (List Att)) (hl:r.length≤100000) (hs:∀x∈r,rdnZ x) (hq:(r.map Bw).flatten.length≤100000000) (_:∀x∈r,(Bw x).length≤100000000):Aa Tryz.prog 94 [.agg [iv 16,bv false],iv r.length,.cl 95 [] [.d (.cp false [Ey r])]] (fun q=>q=if r.all E0=true then .tup [Aq 0 5 (Ae 0 16 true (r.map Bw).flatten),iv 0] else .tup [Ao,iv 8]):=by
 have hW:=Hu 0 16 true (r.map Bw) (by omega) (by omega) (by omega) (by rw[List.length_map];omega)
 refine acQ 43 Tryz.func94 rfl rfl fun _ _ _=> ?_
 (all_goals(conv=>whnf))
 refine NLoop.goA [.s 8 1 27] (fun i:Nat=>i≤r.length∧(r.take i).all E0=true) (fun i=>r.length-i) (fun i=>⟨[(2,.cl 95 [] [.d (.cp false [Ey r])]),(3,.ptr 3 0),(8,Ce 8 1 27 Dk ((r.take i).map Bw)),(12,iv r.length),(13,iv i)],[(3,[iv 16,bv false])],[(8,(((r.take i).map Bw).length,1,27))]⟩) 0 ⟨by omega,rfl⟩ leQ ?_
 rintro i ⟨hi,ha⟩
 have hml:((r.take i).map Bw).length≤100000:=by rw[List.length_map,List.length_take];omega
 by_cases hik:i<r.length
 ·have gi:decide ((i:Int)<r.length)=true:=decide_eq_true (by omega)
  obtain⟨x,hg⟩:∃p,r[i]?=some p:=⟨_,List.getElem?_eq_getElem hik⟩
  have hO:=pG r i hg (hs x (List.mem_of_getElem? hg))
  cases hv:E0 x
  ·rw[hv,if_neg (by simp)] at hO
   rw[if_neg (by rintro h;rw[Y4 hg hv] at h;cases h)]
   (repeat'((conv=>whnf);first|refine NBr.yes ?_|refine NBr.pos asP ?_|refine NCall.eq hO Js ?_));(all_goals(conv=>whnf))
   all_goals exact NEnd.eq leQ
  ·rw[hv,if_pos rfl] at hO
   have hs':=E6 Bw hg
   (repeat'((conv=>whnf);first|refine NBr.no ?_|refine NBr.pos asP ?_|refine NCall.eq hO Js ?_|refine NApp.one Dk (Bw x) ?_|(with_reducible refine NInt.i64 ?_)));(all_goals(conv=>whnf))
   refine⟨i+1,⟨by omega,Hb E0 hg hv ha⟩,by omega,?_⟩
   rw[hs']
   exact leQ
 ·have gi:decide ((i:Int)<r.length)=false:=decide_eq_false (by omega)
  obtain rfl:i=r.length:=by omega
  rw[List.take_length] at ha⊢
  rw[if_pos ha]
  (repeat'((conv=>whnf);first|refine NBr.no ?_|refine NBr.neg asP ?_|refine NCall.eq hW Js ?_));(all_goals(conv=>whnf))
  all_goals exact NEnd.eq leQ
theorem pH (n:List (List Att)) (h:nmZ n):Aa Tryz.prog 61 [.d (Ey n)] (fun q=>q=if nmV n=true then .tup [Aq 0 5 (nmE n),iv 0] else .tup [Ao,iv 8]):=by
 have hq:=h.e
 have hl:=h.l
 have hS:=cK n (by omega) h.r (by omega) (fun r hr=>by
  have:=Fz (p:=Bw r) (l:=n.map Bw) (List.mem_map_of_mem hr)
  omega)
 unfold nmV nmE
 by_cases hv:n.all E0=true
 all_goals
  first|rw[if_pos hv] at hS⊢ |rw[if_neg hv] at hS⊢
  refine acQ 14 Tryz.func61 rfl rfl fun _ _ _=> ?_
  (repeat'((conv=>whnf);refine NCall.eq hS Js ?_));(all_goals(conv=>whnf))
  all_goals exact NEnd.eq leQ
theorem uY (l:List (List UInt8)):D.uns (l.flatMap Ic)=l.flatMap Ic:=by
 induction l with
 |nil=>rfl
 |cons p r ih=>
  show D.un (Ac false p)::D.uns (r.flatMap Ic)=_
  rw[Ah,ih];rfl
def iL (r:List Att):D:=F4 true 2 atU r
theorem kS (l:List Att):D.uns (l.flatMap atU)=l.flatMap atC:=by
 induction l with
 |nil=>rfl
 |cons m r ih=>
  show D.un (sD m.oid)::D.un (Ac true m.val)::D.uns (r.flatMap atU)=_
  rw[Ah,ih];rfl
theorem Cz (r:List Att):(iL r).un=J7 r:=by
 show D.sl false r.length 2 (D.uns (r.flatMap atU))=_
 rw[kS];rfl
def Rf (r:List Att):List D:=[iL r]
def Ng (n:List (List Att)):D:=F4 true 1 Rf n
theorem W4 (n:List (List Att)):D.uns (n.flatMap Rf)=n.flatMap oA:=by
 induction n with
 |nil=>rfl
 |cons m r ih=>
  show D.un (iL m)::D.uns (r.flatMap Rf)=_
  rw[Cz,ih];rfl
theorem By (n:List (List Att)):(Ng n).un=Ey n:=by
 show D.sl false n.length 1 (D.uns (n.flatMap Rf))=_
 rw[W4];rfl
def cL (b:List UInt8):Nat×Nat:=Us b (Ar b 0 16)
def Rm (b:List UInt8):List El→List (List UInt8)→List Att→Option (List Att)×Nat×Nat
 |[],_,out=>(some out,0,0)
 |x::r,ps,out=>match atO (elO b x) with
  |none=>(none,(cL (elO b x)).1,x.at'+(cL (elO b x)).2)
  |some a=>if Ft (ps++[elO b x])=true then Rm b r (ps++[elO b x]) (out++[a]) else(none,7,x.at')
def uZ (b:List UInt8) (r:LR):Option (List Att)×Nat×Nat:=if r.code≠0 then(none,r.code,r.off) else if r.l=[] then(none,1,b.length) else Rm b r.l [] []
def M0 (b:List UInt8):Option (List Att)×Nat×Nat:=uZ b (Ar b 0 17)
def IA:Option (List Att)×Nat×Nat→AV
 |(some r,_,_)=> .tup [.d (iL r),erA 0 0]
 |(none,c,o)=> .tup [Ao,erA c o]
theorem Sb (b:List UInt8) (x:El):(elO b x).length≤b.length:=by unfold elO;rw[List.length_take,List.length_drop];omega
theorem Ut (b:List UInt8) (x:El):(elO b x).length≤x.stop-x.at':=by unfold elO;rw[List.length_take];omega
theorem Gz {p:Prop} (h:p:=by first|rfl|(simp only[AV.gives,AV.ren,AV.give,D.un,D.uns,Ah,Ai,List.nil_append,List.append_nil,List.cons_append,Am,Av,Et,Eu,A1,As,Bx,Ce,Br,uY];first|done|rfl)):p:=h
theorem iM (b:List UInt8) (hb:b.length≤800000):Aa Tryz.prog 169 [.d (Ac false b)] (fun r=>r=IA (M0 b)):=by
 have hP:=Je b 0 17 (by omega)
 have hin:=fun x=>D9 (b:=b) (c:=0) (n:=17) (x:=x)
 have hcn:=N3 b 0 17
 unfold M0
 generalize Ar b 0 17=R at hP hin hcn⊢
 unfold uZ
 by_cases h1:R.code≠0
 ·rw[if_pos h1]
  rw[lrA,if_pos h1] at hP
  have gc:((R.code:Int) !=0)=true:=by rw[bne_iff_ne];omega
  generalize R.code=c at hP gc
  generalize R.off=o at hP
  show Aa _ _ _ (fun r=>r= .tup [Ao,erA c o])
  refine acQ 76 Tryz.func169 rfl rfl fun _ _ _=> ?_
  (repeat'((conv=>whnf);first|refine NBr.pos asP ?_|refine NCall.eq hP Gz ?_|refine NFact.go ⟨by decide+kernel,by kernel_rfl⟩ ?_));(all_goals(conv=>whnf))
  all_goals exact NEnd.eq leQ
 rw[if_neg h1]
 rw[lrA,if_neg h1] at hP
 generalize R.l=l at hP hin hcn⊢
 by_cases hl:l=[]
 ·subst hl
  show Aa _ _ _ (fun r=>r= .tup [Ao,erA 1 b.length])
  refine acQ 76 Tryz.func169 rfl rfl fun _ _ _=> ?_
  (repeat'((conv=>whnf);first|refine NBr.yes ?_|refine NBr.no ?_|refine NCall.eq hP Gz ?_));(all_goals(conv=>whnf))
  all_goals exact NEnd.eq leQ
 rw[if_neg hl]
 have gl:((l.length:Int)==0)=false:=by rw[beq_eq_false_iff_ne];intro h;exact hl (List.eq_nil_of_length_eq_zero (by omega))
 generalize hQ:Rm b l [] []=q
 refine acQ 76 Tryz.func169 rfl rfl fun _ _ _=> ?_
 (repeat'((conv=>whnf);first|refine NBr.no ?_|refine NBr.neg asP ?_|refine NCall.eq hP Gz ?_));(all_goals(conv=>whnf))
 refine NLoop.goA [.s 6 2 126,.s 7 1 27] (fun z:Nat×List (List UInt8)×List Att=>z.1≤l.length∧z.2.1.length≤z.1∧z.2.2.length≤z.1∧(∀p∈z.2.1,p.length≤b.length)∧q=Rm b (l.drop z.1) z.2.1 z.2.2) (fun z=>l.length-z.1) (fun z=>⟨[(0,.d (Ac false b)),(3,.ptr 3 0),(6,Ce 6 2 126 atU z.2.2),(7,Ce 7 1 27 Ic z.2.1),(27,.d (gG l)),(28,iv l.length),(29,iv z.1)],[(3,[iv 0,iv 0])],[(6,(z.2.2.length,2,126)),(7,(z.2.1.length,1,27))]⟩) (0,[],[]) ⟨by simp,by simp,by simp,by simp,by rw[List.drop_zero];exact hQ.symm⟩ leQ ?_
 rintro⟨i,ps,out⟩ ⟨hi,hps,hou,hpl,he⟩
 simp only at hi hps hou hpl he
 by_cases hik:i<l.length
 ·have gi:decide ((i:Int)<l.length)=true:=decide_eq_true (by omega)
  obtain⟨x,hg⟩:∃p,l[i]?=some p:=⟨_,List.getElem?_eq_getElem hik⟩
  obtain⟨x1,x2,x3⟩:=hin x (List.mem_of_getElem? hg)
  have hel:=Sb b x
  have hle:=Ut b x
  have hA:=cI (elO b x) (by omega)
  have hAe:=cJ (elO b x)
  rw[Mq hg,Rm] at he
  have hA:Aa Tryz.prog 204 [.d (Ac false (elO b x))] (fun r=>r=atR (atO (elO b x)) (cL (elO b x))):=hA
  have hAe:atO (elO b x)=none→(cL (elO b x)).1≠0∧(cL (elO b x)).2≤(elO b x).length:=hAe
  generalize cL (elO b x)=er at hA hAe he
  cases ho:atO (elO b x) with
  |none=>
   rw[ho] at hA he
   obtain⟨e1,e2⟩:=hAe ho
   obtain⟨ec,eo⟩:=er
   simp only at e1 e2 he
   subst he
   have gc:((ec:Int) !=0)=true:=by rw[bne_iff_ne];omega
   have hA:Aa Tryz.prog 204 [.d (Ac false (elO b x))] (fun r=>r= .tup [.agg [sx [],Ao],erA ec eo]):=hA
   unfold elO at hA e2
   (repeat'((conv=>whnf);first|refine NBr.pos asP ?_|refine NIdx.tab (fun _=>rfl) hg ?_|refine NSl.slice (x.at') (x.stop) ?_|refine NApp.one Ic ((b.drop x.at').take (x.stop-x.at')) ?_|refine NCall.eq hA Gz ?_|(with_reducible refine NInt.i64 ?_)|refine NFact.go ⟨by decide+kernel,by kernel_rfl⟩ ?_));(all_goals(conv=>whnf))
   all_goals exact NEnd.eq leQ
  |some a=>
   rw[ho] at hA he
   have hA:Aa Tryz.prog 204 [.d (Ac false (elO b x))] (fun r=>r= .tup [.agg [sx a.oid,.d (Ac true a.val)],erA 0 0]):=hA
   simp only at he
   have hOr:=Q4 (ps++[elO b x]) (by rw[List.length_append,List.length_singleton];omega) (fun p hp=>by
    rcases List.mem_append.1 hp with h|h
    ·have:=hpl p h;omega
    ·rw[List.mem_singleton.1 h];omega)
   unfold elO at hA hOr he
   cases hor:Ft (ps++[(b.drop x.at').take (x.stop-x.at')])
   ·rw[hor] at hOr he
    rw[if_neg (by simp)] at he
    subst he
    (repeat'((conv=>whnf);first|refine NBr.yes ?_|refine NBr.no ?_|refine NBr.pos asP ?_|refine NIdx.tab (fun _=>rfl) hg ?_|refine NSl.slice (x.at') (x.stop) ?_|refine NApp.one Ic ((b.drop x.at').take (x.stop-x.at')) ?_|refine NCall.eq hA Gz ?_|refine NCall.eq hOr Gz ?_|refine NFact.go ⟨by decide+kernel,by kernel_rfl⟩ ?_));(all_goals(conv=>whnf))
    all_goals exact NEnd.eq leQ
   ·rw[hor] at hOr he
    rw[if_pos rfl] at he
    (repeat'((conv=>whnf);first|refine NBr.no ?_|refine NBr.pos asP ?_|refine NIdx.tab (fun _=>rfl) hg ?_|refine NSl.slice (x.at') (x.stop) ?_|refine NApp.one Ic ((b.drop x.at').take (x.stop-x.at')) ?_|refine NCall.eq hA Gz ?_|refine NCall.eq hOr Gz ?_|refine NApp.one atU a ?_|(with_reducible refine NInt.i64 ?_)));(all_goals(conv=>whnf))
    refine⟨(i+1,ps++[(b.drop x.at').take (x.stop-x.at')],out++[a]),⟨by show i+1≤_;omega,by simp;omega,by simp;omega,fun p hp=> ?_,he⟩,by show l.length-(i+1)<l.length-i;omega,?_⟩
    ·rcases List.mem_append.1 hp with h|h
     ·exact hpl p h
     ·rw[List.mem_singleton.1 h];exact hel
    ·exact leQ
 ·have gi:decide ((i:Int)<l.length)=false:=decide_eq_false (by omega)
  obtain rfl:i=l.length:=by omega
  rw[List.drop_length,Rm] at he
  subst he
  (repeat'((conv=>whnf);refine NBr.neg asP ?_));(all_goals(conv=>whnf))
  all_goals exact NEnd.eq leQ
def nmL (b:List UInt8):List El→List (List Att)→Option (List (List Att))×Nat×Nat
 |[],out=>(some out,0,0)
 |x::r,out=>match M0 (elO b x) with
  |(none,c,o)=>(none,c,x.at'+o)
  |(some a,_,_)=>nmL b r (out++[a])
def nmQ (b:List UInt8) (r:LR):Option (List (List Att))×Nat×Nat:=if r.code≠0 then(none,r.code,r.off) else nmL b r.l []
def nmR (b:List UInt8):Option (List (List Att))×Nat×Nat:=nmQ b (Ar b 0 16)
def nmA:Option (List (List Att))×Nat×Nat→AV
 |(some r,_,_)=> .tup [.d (Ng r),erA 0 0]
 |(none,c,o)=> .tup [Ao,erA c o]
theorem kU (b:List UInt8):∀(l:List El) (ps:List (List UInt8)) (out:List Att),(∀x∈l,x.at'≤x.stop∧x.stop≤b.length)→(Rm b l ps out).1=none→(Rm b l ps out).2.1≠0∧(Rm b l ps out).2.2≤b.length
 |[],_,_,_,h=>by cases h
 |x::r,ps,out,hx,h=>by
  have hle:=Ut b x
  have hAe:atO (elO b x)=none→(cL (elO b x)).1≠0∧(cL (elO b x)).2≤(elO b x).length:=cJ (elO b x)
  have:=hx x (by simp)
  rw[Rm] at h⊢
  cases ho:atO (elO b x) with
  |none=>obtain⟨e1,e2⟩:=hAe ho;exact⟨e1,by show x.at'+_≤_;omega⟩
  |some a=>
   rw[ho] at h
   simp only at h⊢
   by_cases hor:Ft (ps++[elO b x])=true
   ·rw[if_pos hor] at h⊢
    exact kU b r _ _ (fun y hy=>hx y (by simp[hy])) h
   ·rw[if_neg hor];exact⟨by simp,by show x.at'≤_;omega⟩
theorem kV (b:List UInt8) (h:(M0 b).1=none):(M0 b).2.1≠0∧(M0 b).2.2≤b.length:=by
 have hin:=fun x=>D9 (b:=b) (c:=0) (n:=17) (x:=x)
 have hoff:=Ka b 0 17
 unfold M0 at h⊢
 generalize Ar b 0 17=R at hin hoff h⊢
 unfold uZ at h⊢
 by_cases h1:R.code≠0
 ·rw[if_pos h1];exact⟨h1,hoff⟩
 rw[if_neg h1] at h⊢
 by_cases hl:R.l=[]
 ·rw[if_pos hl];exact⟨by simp,Nat.le_refl _⟩
 ·rw[if_neg hl] at h⊢
  exact kU b R.l [] [] (fun y hy=>by have:=hin y hy;omega) h
theorem pI (b:List UInt8) (hb:b.length≤800000):Aa Tryz.prog 141 [.d (Ac false b)] (fun r=>r=nmA (nmR b)):=by
 have hP:=Je b 0 16 (by omega)
 have hin:=fun x=>D9 (b:=b) (c:=0) (n:=16) (x:=x)
 have hcn:=N3 b 0 16
 unfold nmR
 generalize Ar b 0 16=R at hP hin hcn⊢
 unfold nmQ
 by_cases h1:R.code≠0
 ·rw[if_pos h1]
  rw[lrA,if_pos h1] at hP
  have gc:((R.code:Int) !=0)=true:=by rw[bne_iff_ne];omega
  generalize R.code=c at hP gc
  generalize R.off=o at hP
  show Aa _ _ _ (fun r=>r= .tup [Ao,erA c o])
  refine acQ 54 Tryz.func141 rfl rfl fun _ _ _=> ?_
  (repeat'((conv=>whnf);first|refine NBr.pos asP ?_|refine NCall.eq hP Gz ?_|refine NFact.go ⟨by decide+kernel,by kernel_rfl⟩ ?_));(all_goals(conv=>whnf))
  all_goals exact NEnd.eq leQ
 rw[if_neg h1]
 rw[lrA,if_neg h1] at hP
 generalize R.l=l at hP hin hcn⊢
 generalize hQ:nmL b l []=q
 refine acQ 54 Tryz.func141 rfl rfl fun _ _ _=> ?_
 (repeat'((conv=>whnf);first|refine NBr.no ?_|refine NCall.eq hP Gz ?_));(all_goals(conv=>whnf))
 refine NLoop.goA [.s 6 1 124] (fun z:Nat×List (List Att)=>z.1≤l.length∧z.2.length≤z.1∧q=nmL b (l.drop z.1) z.2) (fun z=>l.length-z.1) (fun z=>⟨[(0,.d (Ac false b)),(3,.ptr 3 0),(6,Ce 6 1 124 Rf z.2),(20,.d (gG l)),(21,iv l.length),(22,iv z.1)],[(3,[iv 0,iv 0])],[(6,(z.2.length,1,124))]⟩) (0,[]) ⟨by simp,by simp,by rw[List.drop_zero];exact hQ.symm⟩ leQ ?_
 rintro⟨i,out⟩ ⟨hi,hou,he⟩
 simp only at hi hou he
 by_cases hik:i<l.length
 ·have gi:decide ((i:Int)<l.length)=true:=decide_eq_true (by omega)
  obtain⟨x,hg⟩:∃p,l[i]?=some p:=⟨_,List.getElem?_eq_getElem hik⟩
  obtain⟨x1,x2,x3⟩:=hin x (List.mem_of_getElem? hg)
  have hel:=Sb b x
  have hle:=Ut b x
  have hA:=iM (elO b x) (by omega)
  have hAe:=kV (elO b x)
  rw[Mq hg,nmL] at he
  generalize M0 (elO b x)=er at hA hAe he
  obtain⟨eo,ec,ep⟩:=er
  cases eo with
  |none=>
   obtain⟨e1,e2⟩:=hAe rfl
   simp only at e1 e2 he
   subst he
   have gc:((ec:Int) !=0)=true:=by rw[bne_iff_ne];omega
   have hA:Aa Tryz.prog 169 [.d (Ac false (elO b x))] (fun r=>r= .tup [Ao,erA ec ep]):=hA
   unfold elO at hA e2
   (repeat'((conv=>whnf);first|refine NBr.pos asP ?_|refine NIdx.tab (fun _=>rfl) hg ?_|refine NSl.slice (x.at') (x.stop) ?_|refine NCall.eq hA Gz ?_|(with_reducible refine NInt.i64 ?_)|refine NFact.go ⟨by decide+kernel,by kernel_rfl⟩ ?_));(all_goals(conv=>whnf))
   all_goals exact NEnd.eq leQ
  |some a=>
   simp only at he
   have hA:Aa Tryz.prog 169 [.d (Ac false (elO b x))] (fun r=>r= .tup [.d (iL a),erA 0 0]):=hA
   unfold elO at hA
   (repeat'((conv=>whnf);first|refine NBr.no ?_|refine NBr.pos asP ?_|refine NIdx.tab (fun _=>rfl) hg ?_|refine NSl.slice (x.at') (x.stop) ?_|refine NCall.eq hA Gz ?_|refine NApp.one Rf a ?_|(with_reducible refine NInt.i64 ?_)));(all_goals(conv=>whnf))
   refine⟨(i+1,out++[a]),⟨by show i+1≤_;omega,by simp;omega,he⟩,by show l.length-(i+1)<l.length-i;omega,?_⟩
   exact leQ
 ·have gi:decide ((i:Int)<l.length)=false:=decide_eq_false (by omega)
  obtain rfl:i=l.length:=by omega
  rw[List.drop_length,nmL] at he
  subst he
  (repeat'((conv=>whnf);refine NBr.neg asP ?_));(all_goals(conv=>whnf))
  all_goals exact NEnd.eq leQ
theorem vA (b:List UInt8):∀(l:List El) (out:List (List Att)),(∀x∈l,x.at'≤x.stop∧x.stop≤b.length)→(nmL b l out).1=none→(nmL b l out).2.1≠0∧(nmL b l out).2.2≤b.length
 |[],_,_,h=>by cases h
 |x::r,out,hx,h=>by
  have hle:=Ut b x
  have hAe:=kV (elO b x)
  have:=hx x (by simp)
  rw[nmL] at h⊢
  generalize M0 (elO b x)=er at hAe h⊢
  obtain⟨eo,ec,ep⟩:=er
  cases eo with
  |none=>obtain⟨e1,e2⟩:=hAe rfl;exact⟨e1,by show x.at'+ep≤_;simp only at e2;omega⟩
  |some a=>exact vA b r _ (fun y hy=>hx y (by simp[hy])) h
theorem EG (b:List UInt8) (h:(nmR b).1=none):(nmR b).2.1≠0∧(nmR b).2.2≤b.length:=by
 have hin:=fun x=>D9 (b:=b) (c:=0) (n:=16) (x:=x)
 have hoff:=Ka b 0 16
 unfold nmR at h⊢
 generalize Ar b 0 16=R at hin hoff h⊢
 unfold nmQ at h⊢
 by_cases h1:R.code≠0
 ·rw[if_pos h1];exact⟨h1,hoff⟩
 rw[if_neg h1] at h⊢
 exact vA b R.l [] (fun y hy=>by have:=hin y hy;omega) h
abbrev gnQ (g:Gn):AV:= .agg [iv g.k,.d (sD g.oid),.d (sD g.tx),.d (Ac true g.by'),.d (Ng g.nm),iv g.ak,.d (sD g.av),iv g.pk,.d (sD g.pv)]
def gz:Gn:=⟨0,[],[],[],[],0,[],0,[]⟩
abbrev ptA (k:Int) (c:List UInt8):AV:= .agg [iv k,.d (Ac false c)]
abbrev gbA (p:Gn×Bool):AV:= .tup [gnQ p.1,bv p.2]
theorem Cl {p:Prop} (h:p:=by first|rfl|(simp only[AV.gives,AV.ren,AV.give,D.un,D.uns,Ah,Ai,List.nil_append,List.append_nil,List.cons_append,Am,Av,Bv,A1,As,Bp,Bx,Cz,By];first|done|rfl)):p:=h
theorem Qg (k:Int) (c:List UInt8) (hl:c.length≤1000000):Aa Tryz.prog 98 [ptA k c] (fun r=>r=gbA (⟨k,[],Bs 22 c,[],[],0,[],0,[]⟩,Cw 22 c==0)):=by
 have hE:=J6 22 c hl
 refine acQ 19 Tryz.func98 rfl rfl fun _ _ _=> ?_
 (repeat'((conv=>whnf);refine NCall.eq hE Cl ?_));(all_goals(conv=>whnf))
 all_goals exact NEnd.eq leQ
theorem Uu (k:Int) (c:List UInt8) (hl:c.length≤1000000):Aa Tryz.prog 99 [ptA k c] (fun r=>r=gbA (⟨k,[],[],c,[],0,[],0,[]⟩,true)):=by
 have hE:=Md c (by omega)
 refine acQ 10 Tryz.func99 rfl rfl fun _ _ _=> ?_
 (repeat'((conv=>whnf);first|refine NCall.eq hE Cl ?_|refine NFact.go ⟨by decide+kernel,by kernel_rfl⟩ ?_));(all_goals(conv=>whnf))
 all_goals exact NEnd.eq leQ
theorem cM (k:Int) (c:List UInt8) (hl:c.length≤800000):Aa Tryz.prog 102 [ptA k c] (fun r=>r=gbA (⟨k,odT c,[],[],[],0,[],0,[]⟩,(odC c:Int)==0)):=by
 have hE:=Ny c (by omega)
 rw[My] at hE
 refine acQ 18 Tryz.func102 rfl rfl fun _ _ _=> ?_
 (repeat'((conv=>whnf);refine NCall.eq hE Cl ?_));(all_goals(conv=>whnf))
 all_goals exact NEnd.eq leQ
def Pg (k:Int) (c:List UInt8):Gn×Bool:=match nmR c with
 |(some n,_,_)=>(⟨k,[],[],[],n,0,[],0,[]⟩,true)
 |(none,_,_)=>(⟨k,[],[],[],[],0,[],0,[]⟩,false)
theorem vB (k:Int) (c:List UInt8) (hl:c.length≤800000):Aa Tryz.prog 100 [ptA k c] (fun r=>r=gbA (Pg k c)):=by
 have hE:=pI c hl
 have ho:=EG c
 unfold Pg
 generalize nmR c=q at hE ho⊢
 obtain⟨n,cd,of⟩:=q
 cases n with
 |none=>
  have h0:=(ho rfl).1
  simp only at h0
  have g0:((cd:Int)==0)=false:=by rw[beq_eq_false_iff_ne];omega
  have hE:Aa Tryz.prog 141 [.d (Ac false c)] (fun r=>r= .tup [Ao,erA cd of]):=hE
  refine acQ 19 Tryz.func100 rfl rfl fun _ _ _=> ?_
  (repeat'((conv=>whnf);first|refine NCall.eq hE Cl ?_|refine NFact.go ⟨by decide+kernel,by kernel_rfl⟩ ?_));(all_goals(conv=>whnf))
  all_goals(refine NEnd.eq ?_;(repeat'(first|exact trivial|exact Ak _|refine And.intro ?_ ?_|exact rfl));(all_goals(conv=>whnf)))
  all_goals exact g0
 |some n=>
  have hE:Aa Tryz.prog 141 [.d (Ac false c)] (fun r=>r= .tup [.d (Ng n),erA 0 0]):=hE
  refine acQ 19 Tryz.func100 rfl rfl fun _ _ _=> ?_
  (repeat'((conv=>whnf);first|refine NCall.eq hE Cl ?_|refine NFact.go ⟨by decide+kernel,by kernel_rfl⟩ ?_));(all_goals(conv=>whnf))
  all_goals exact NEnd.eq leQ
theorem N4 {c p:List UInt8} (h:p∈Cy c):p.length≤c.length:=by
 unfold Cy at h
 split at h
 ·cases h
 ·obtain⟨x,-,rfl⟩:=List.mem_map.1 h
  exact Sb c x
def inn (b:List UInt8) (n:Nat):List UInt8:=(Bz b n).getD []
theorem AD (b:List UInt8) (n:Nat) (hb:b.length≤1000000000):Aa Tryz.prog 138 [.d (Ac false b),iv n] (fun r=>r=tL (Bz b n)):=nY b n hb
theorem Ph (b:List UInt8) (n:Nat):(inn b n).length≤b.length:=by
 unfold inn Bz
 split
 ·exact Nat.zero_le _
 ·show((b.drop _).take _).length≤_;rw[List.length_take,List.length_drop];omega
def Vt (k:Int) (p q:List UInt8):Gn×Bool:=if(At p).code≠0∨(At p).x.isB 0 6 false=false then(gz,false) else
 (⟨k,odT (p.drop (At p).x.body),[],inn q 0,[],0,[],0,[]⟩,(Bz q 0).isSome&&((odC (p.drop (At p).x.body):Int)==0))
def M1 (k:Int) (c:List UInt8):Gn×Bool:=match Cy c with
 |[p,q]=>Vt k p q
 |_=>(gz,false)
theorem vC (k:Int) (c:List UInt8) (hl:c.length≤800000):Aa Tryz.prog 97 [ptA k c] (fun r=>r=gbA (M1 k c)):=by
 have hS:=Wi c (by omega)
 have hm:=fun p=>N4 (c:=c) (p:=p)
 unfold M1
 generalize Cy c=l at hS hm⊢
 match l with
 |[]=>
  refine acQ 62 Tryz.func97 rfl rfl fun _ _ _=> ?_
  (repeat'((conv=>whnf);first|refine NBr.yes ?_|refine NCall.eq hS Cl ?_));(all_goals(conv=>whnf))
  all_goals exact NEnd.eq leQ
 |[x]=>
  refine acQ 62 Tryz.func97 rfl rfl fun _ _ _=> ?_
  (repeat'((conv=>whnf);first|refine NBr.yes ?_|refine NCall.eq hS Cl ?_));(all_goals(conv=>whnf))
  all_goals exact NEnd.eq leQ
 |x::y::z::r=>
  refine acQ 62 Tryz.func97 rfl rfl fun _ _ _=> ?_
  (repeat'((conv=>whnf);first|refine NBr.yes ?_|refine NCall.eq hS Cl ?_));(all_goals(conv=>whnf))
  all_goals exact NEnd.eq leQ
 |[p,q]=>
  have hp:=hm p (by simp)
  have hq:=hm q (by simp)
  have g0:([p,q]:List (List UInt8))[0]?=some p:=rfl
  have g1:([p,q]:List (List UInt8))[1]?=some q:=rfl
  have hO:=Mc p (by omega)
  have hF:=De p
  have hI:=Tg (At p).x 0 6 false
  show Aa _ _ _ (fun r=>r=gbA (Vt k p q))
  unfold Vt
  by_cases h1:(At p).code≠0
  ·rw[if_pos (.inl h1)]
   generalize At p=r1 at hO h1
   have gc:((r1.code:Int) !=0)=true:=by rw[bne_iff_ne];omega
   refine acQ 62 Tryz.func97 rfl rfl fun _ _ _=> ?_
   (repeat'((conv=>whnf);first|refine NBr.yes ?_|refine NBr.no ?_|refine NBr.pos asP ?_|refine NCall.eq hS Cl ?_|refine NIdx.tab (fun _=>rfl) g0 ?_|refine NCall.eq hO Cl ?_));(all_goals(conv=>whnf))
   all_goals exact NEnd.eq leQ
  have h1':=Decidable.not_not.1 h1
  cases h2:(At p).x.isB 0 6 false
  ·rw[if_pos (.inr rfl)]
   rw[h2] at hI
   generalize At p=r1 at hO h1' hI
   obtain⟨x1,c1,o1⟩:=r1
   simp only at h1'
   subst h1'
   refine acQ 62 Tryz.func97 rfl rfl fun _ _ _=> ?_
   (repeat'((conv=>whnf);first|refine NBr.yes ?_|refine NBr.no ?_|refine NCall.eq hS Cl ?_|refine NIdx.tab (fun _=>rfl) g0 ?_|refine NCall.eq hO Cl ?_|refine NCall.eq hI rfl ?_));(all_goals(conv=>whnf))
   all_goals exact NEnd.eq leQ
  ·rw[if_neg (by rintro(h|h);exact h1 h;cases h)]
   rw[h2] at hI
   have hb:=hF.1 h1'
   have hD:=Ny (p.drop (At p).x.body) (by rw[List.length_drop];omega)
   have hN:=AD q 0 (by omega)
   have hil:=Ph q 0
   have hC:=Md (inn q 0) (by omega)
   rw[My] at hD
   unfold inn at hC⊢
   generalize At p=r1 at hO h1' hI hb hD⊢
   obtain⟨x1,c1,o1⟩:=r1
   simp only at h1' hb hI hD⊢
   subst h1'
   generalize odT (p.drop x1.body)=ot at hD⊢
   generalize odC (p.drop x1.body)=oc at hD⊢
   cases hin:Bz q 0 with
   |none=>
    rw[hin] at hN hC
    have hC:Aa Tryz.prog 139 [.d (Ac false [])] (fun r=>r= .d (Ac true [])):=hC
    have hN:Aa Tryz.prog 138 [.d (Ac false q),iv 0] (fun r=>r= .tup [Ao,bv false]):=hN
    refine acQ 62 Tryz.func97 rfl rfl fun _ _ _=> ?_
    (repeat'((conv=>whnf);first|refine NBr.no ?_|refine NCall.eq hS Cl ?_|refine NIdx.tab (fun _=>rfl) g0 ?_|refine NIdx.tab (fun _=>rfl) g1 ?_|refine NCall.eq hO Cl ?_|refine NCall.eq hI rfl ?_|refine NSl.from (x1.body) ?_|refine NCall.eq hD Cl ?_|refine NCall.eq hN Cl ?_|refine NCall.le hC S6 ?_|refine NFact.go ⟨by decide+kernel,by kernel_rfl⟩ ?_));(all_goals(conv=>whnf))
    all_goals exact NEnd.eq leQ
   |some v=>
    rw[hin] at hN hC
    have hC:Aa Tryz.prog 139 [.d (Ac false v)] (fun r=>r= .d (Ac true v)):=hC
    have hN:Aa Tryz.prog 138 [.d (Ac false q),iv 0] (fun r=>r= .tup [.d (Ac false v),bv true]):=hN
    refine acQ 62 Tryz.func97 rfl rfl fun _ _ _=> ?_
    (repeat'((conv=>whnf);first|refine NBr.yes ?_|refine NBr.no ?_|refine NCall.eq hS Cl ?_|refine NIdx.tab (fun _=>rfl) g0 ?_|refine NIdx.tab (fun _=>rfl) g1 ?_|refine NCall.eq hO Cl ?_|refine NCall.eq hI rfl ?_|refine NSl.from (x1.body) ?_|refine NCall.eq hD Cl ?_|refine NCall.eq hN Cl ?_|refine NCall.eq hC Cl ?_|refine NFact.go ⟨by decide+kernel,by kernel_rfl⟩ ?_));(all_goals(conv=>whnf))
    all_goals exact NEnd.eq leQ
def pK (b:List UInt8):Int:=if Fd b=true then Mz b else 0
def pV (b:List UInt8):List UInt8:=if Fd b=true then Qf b else []
theorem Y7 (b:List UInt8) (hb:b.length≤1000000):Aa Tryz.prog 142 [.d (Ac false b)] (fun r=>r= .tup [txA (pK b) (pV b),bv (Fd b)]):=by
 have h:=Vr b hb
 unfold EF at h
 unfold pK pV
 cases hd:Fd b
 all_goals
  rw[hd] at h
  exact h
def Ke (k:Int) (q:List UInt8) (ak:Int) (av:List UInt8):Gn×Bool:=(⟨k,[],[],[],[],ak,av,pK (inn q 1),pV (inn q 1)⟩,(Bz q 1).isSome&&Fd (inn q 1))
def Jt (k:Int) (c:List UInt8):Gn×Bool:=match Cy c with
 |[p,q]=>if(Bz p 0).isSome&&Fd (inn p 0) then Ke k q (pK (inn p 0)) (pV (inn p 0)) else(gz,false)
 |[q]=>Ke k q 0 []
 |_=>(gz,false)
theorem E8 {b v:List UInt8} {n:Nat} (h:Bz b n=some v):inn b n=v:=by unfold inn;rw[h];rfl
theorem Uv {b:List UInt8} {n:Nat} (h:Bz b n=none):inn b n=[]:=by unfold inn;rw[h];rfl
theorem Bg {p:Prop} (h:p:=by first|rfl|(simp only[AV.gives,AV.ren,AV.give,D.un,D.uns,Ah,Ai,List.nil_append,List.append_nil,List.cons_append,Am,Av,Bv,A1,As,Bp,Bx,Cz,By];first|done|rfl)):p:=h
theorem vD (k:Int) (c:List UInt8) (hl:c.length≤800000):Aa Tryz.prog 101 [ptA k c] (fun r=>r=gbA (Jt k c)):=by
 have hS:=Wi c (by omega)
 have hm:=fun p=>N4 (c:=c) (p:=p)
 unfold Jt
 generalize Cy c=l at hS hm⊢
 match l with
 |[]=>
  refine acQ 69 Tryz.func101 rfl rfl fun _ _ _=> ?_
  (repeat'((conv=>whnf);first|refine NBr.yes ?_|refine NBr.no ?_|refine NCall.eq hS Bg ?_));(all_goals(conv=>whnf))
  all_goals exact NEnd.eq leQ
 |x::y::z::r=>
  refine acQ 69 Tryz.func101 rfl rfl fun _ _ _=> ?_
  (repeat'((conv=>whnf);first|refine NBr.yes ?_|refine NBr.no ?_|refine NCall.eq hS Bg ?_));(all_goals(conv=>whnf))
  all_goals exact NEnd.eq leQ
 |[q]=>
  have hq:=hm q (by simp)
  have g0:([q]:List (List UInt8))[0]?=some q:=rfl
  have hN:=AD q 1 (by omega)
  have hil:=Ph q 1
  have hD:=Y7 (inn q 1) (by omega)
  show Aa _ _ _ (fun r=>r=gbA (Ke k q 0 []))
  unfold Ke
  cases hin:Bz q 1 with
  |none=>
   rw[hin] at hN
   rw[Uv hin] at hD⊢
   have hN:Aa Tryz.prog 138 [.d (Ac false q),iv 1] (fun r=>r= .tup [Ao,bv false]):=hN
   generalize pK []=K at hD⊢
   generalize pV []=V at hD⊢
   generalize Fd []=O at hD⊢
   refine acQ 69 Tryz.func101 rfl rfl fun _ _ _=> ?_
   (repeat'((conv=>whnf);first|refine NBr.no ?_|refine NCall.eq hS Bg ?_|refine NIdx.tab (fun _=>rfl) g0 ?_|refine NCall.eq hN Bg ?_|refine NCall.le hD S6 ?_));(all_goals(conv=>whnf))
   all_goals exact NEnd.eq leQ
  |some v=>
   rw[hin] at hN
   rw[E8 hin] at hD⊢
   have hN:Aa Tryz.prog 138 [.d (Ac false q),iv 1] (fun r=>r= .tup [.d (Ac false v),bv true]):=hN
   generalize pK v=K at hD⊢
   generalize pV v=V at hD⊢
   generalize Fd v=O at hD⊢
   refine acQ 69 Tryz.func101 rfl rfl fun _ _ _=> ?_
   (repeat'((conv=>whnf);first|refine NBr.yes ?_|refine NBr.no ?_|refine NCall.eq hS Bg ?_|refine NIdx.tab (fun _=>rfl) g0 ?_|refine NCall.eq hN Bg ?_|refine NCall.eq hD Bg ?_));(all_goals(conv=>whnf))
   all_goals exact NEnd.eq leQ
 |[p,q]=>
  have hp:=hm p (by simp)
  have hq:=hm q (by simp)
  have g0:([p,q]:List (List UInt8))[0]?=some p:=rfl
  have g1:([q]:List (List UInt8))[0]?=some q:=rfl
  have hN0:=AD p 0 (by omega)
  have hil0:=Ph p 0
  have hD0:=Y7 (inn p 0) (by omega)
  have hN:=AD q 1 (by omega)
  have hil:=Ph q 1
  have hD:=Y7 (inn q 1) (by omega)
  show Aa _ _ _ (fun r=>r=gbA (if(Bz p 0).isSome&&Fd (inn p 0) then Ke k q (pK (inn p 0)) (pV (inn p 0)) else(gz,false)))
  cases hin0:Bz p 0 with
  |none=>
   rw[hin0] at hN0
   rw[Uv hin0] at hD0
   have hN0:Aa Tryz.prog 138 [.d (Ac false p),iv 0] (fun r=>r= .tup [Ao,bv false]):=hN0
   rw[if_neg (by simp)]
   generalize pK []=K at hD0
   generalize pV []=V at hD0
   generalize Fd []=O at hD0
   refine acQ 69 Tryz.func101 rfl rfl fun _ _ _=> ?_
   (repeat'((conv=>whnf);first|refine NBr.yes ?_|refine NCall.eq hS Bg ?_|refine NIdx.tab (fun _=>rfl) g0 ?_|refine NCall.eq hN0 Bg ?_|refine NCall.le hD0 S6 ?_));(all_goals(conv=>whnf))
   all_goals exact NEnd.eq leQ
  |some v=>
   rw[hin0] at hN0
   rw[E8 hin0] at hD0⊢
   have hN0:Aa Tryz.prog 138 [.d (Ac false p),iv 0] (fun r=>r= .tup [.d (Ac false v),bv true]):=hN0
   cases hd0:Fd v
   ·rw[hd0] at hD0
    rw[if_neg (by simp)]
    refine acQ 69 Tryz.func101 rfl rfl fun _ _ _=> ?_
    (repeat'((conv=>whnf);first|refine NBr.yes ?_|refine NBr.no ?_|refine NCall.eq hS Bg ?_|refine NIdx.tab (fun _=>rfl) g0 ?_|refine NCall.eq hN0 Bg ?_|refine NCall.eq hD0 Bg ?_));(all_goals(conv=>whnf))
    all_goals exact NEnd.eq leQ
   rw[hd0] at hD0
   rw[if_pos (by rfl)]
   generalize pK v=K0 at hD0⊢
   generalize pV v=V0 at hD0⊢
   unfold Ke
   cases hin:Bz q 1 with
   |none=>
    rw[hin] at hN
    rw[Uv hin] at hD⊢
    have hN:Aa Tryz.prog 138 [.d (Ac false q),iv 1] (fun r=>r= .tup [Ao,bv false]):=hN
    generalize pK []=K at hD⊢
    generalize pV []=V at hD⊢
    generalize Fd []=O at hD⊢
    refine acQ 69 Tryz.func101 rfl rfl fun _ _ _=> ?_
    (repeat'((conv=>whnf);first|refine NBr.yes ?_|refine NBr.no ?_|refine NCall.eq hS Bg ?_|refine NIdx.tab (fun _=>rfl) g0 ?_|refine NCall.eq hN0 Bg ?_|refine NCall.eq hD0 Bg ?_|refine NSl.tab (fun _=>rfl) 1 2 [q] rfl ?_|refine NIdx.tab (fun _=>rfl) g1 ?_|refine NCall.eq hN Bg ?_|refine NCall.le hD S6 ?_|refine NFact.go ⟨by decide+kernel,by kernel_rfl⟩ ?_));(all_goals(conv=>whnf))
    all_goals exact NEnd.eq leQ
   |some v=>
    rw[hin] at hN
    rw[E8 hin] at hD⊢
    have hN:Aa Tryz.prog 138 [.d (Ac false q),iv 1] (fun r=>r= .tup [.d (Ac false v),bv true]):=hN
    generalize pK v=K at hD⊢
    generalize pV v=V at hD⊢
    generalize Fd v=O at hD⊢
    refine acQ 69 Tryz.func101 rfl rfl fun _ _ _=> ?_
    (repeat'((conv=>whnf);first|refine NBr.yes ?_|refine NBr.no ?_|refine NCall.eq hS Bg ?_|refine NIdx.tab (fun _=>rfl) g0 ?_|refine NCall.eq hN0 Bg ?_|refine NCall.eq hD0 Bg ?_|refine NSl.tab (fun _=>rfl) 1 2 [q] rfl ?_|refine NIdx.tab (fun _=>rfl) g1 ?_|refine NCall.eq hN Bg ?_|refine NCall.eq hD Bg ?_|refine NFact.go ⟨by decide+kernel,by kernel_rfl⟩ ?_));(all_goals(conv=>whnf))
    all_goals exact NEnd.eq leQ
theorem W5 (b:List UInt8) (hb:b.length≤1000000000):Aa Tryz.prog 57 [.d (Ac false b)] (fun r=>r=bv (Dj b)):=by
 rw[R8]
 rcases Uq b hb with⟨h1,ta,tq,tm,tk,tl,tcs,hT⟩|⟨h1,hT⟩
 ·rw[h1]
  refine acQ 13 Tryz.func57 rfl rfl fun _ _ _=> ?_
  (repeat'((conv=>whnf);refine NCall.eq hT Bg ?_));(all_goals(conv=>whnf))
  all_goals exact NEnd.eq leQ
 ·generalize Lt b=tO at hT
  generalize Jr b=tc at hT h1⊢
  have g1:((tc:Int)==0)=(tc==0):=E4 tc 0
  refine acQ 13 Tryz.func57 rfl rfl fun _ _ _=> ?_
  (repeat'((conv=>whnf);refine NCall.eq hT Bg ?_));(all_goals(conv=>whnf))
  all_goals(refine NEnd.eq ?_;(repeat'(first|refine And.intro ?_ ?_|exact rfl));(all_goals(conv=>whnf)))
  all_goals exact g1
theorem Ij (n:Nat) (b:List UInt8) (hn:n≤30) (hb:b.length≤900000000):Aa Tryz.prog 58 [iv n,.d (Ac false b)] (fun r=>r= .tup [Aq 0 5 (Ae 2 n true b),iv 0]):=by
 have hW:=Jp 2 n true b (by omega) hn hb
 refine acQ 12 Tryz.func58 rfl rfl fun _ _ _=> ?_
 (repeat'((conv=>whnf);refine NCall.eq hW Bg ?_));(all_goals(conv=>whnf))
 all_goals exact NEnd.eq leQ
theorem kW (k:Int):(k=0∨k=1∨k=2∨k=3∨k=4∨k=5∨k=6∨k=7∨k=8)∨((k==0)=false∧(k==1)=false∧(k==2)=false∧(k==3)=false∧(k==4)=false∧(k==5)=false∧(k==6)=false∧(k==7)=false∧(k==8)=false):=by
 simp only[beq_eq_false_iff_ne];omega
def C8 (k:Int):Bool:=k==0||(k==3||(k==4||k==5))
theorem cN (k:Int):Aa Tryz.prog 40 [iv k] (fun r=>r=bv (C8 k)):=by
 rcases kW k with(h|h|h|h|h|h|h|h|h)|⟨h0,h1,h2,h3,h4,h5,h6,h7,h8⟩
 case inr=>
  rw[show C8 k=false by unfold C8;rw[h0,h3,h4,h5];rfl]
  refine acQ 9 Tryz.func40 rfl rfl fun _ _ _=> ?_
  (repeat'((conv=>whnf);refine NBr.neg asP ?_));(all_goals(conv=>whnf))
  all_goals exact NEnd.eq leQ
 all_goals
  subst h
  refine acQ 9 Tryz.func40 rfl rfl fun _ _ _=> ?_
  (repeat'((conv=>whnf);first|refine NBr.yes ?_|refine NBr.no ?_));(all_goals(conv=>whnf))
  all_goals exact NEnd.eq leQ
def ip (n:Nat):Bool:=n==4||(n==8||(n==16||n==32))
def Rn (g:Gn):Bool:=if g.k=0 then Dj g.by' else if g.k=3 then Dj (Ae 2 3 true g.by') else if g.k=7 then ip g.by'.length else true
theorem W6 (g:Gn) (hb:g.by'.length≤100000000):Aa Tryz.prog 38 [gnA g] (fun r=>r=bv (Rn g)):=by
 obtain⟨k,oid,tx,by',nm,ak,av,pk,pv⟩:=g
 simp only at hb
 have hO:=W5 by' (by omega)
 have hX:=Ij 3 by' (by omega) (by omega)
 have hle:=Al 2 3 true by' (by omega)
 have hO3:=W5 (Ae 2 3 true by') (by omega)
 unfold Rn
 simp only
 rcases kW k with(h|h|h|h|h|h|h|h|h)|⟨h0,h1,h2,h3,h4,h5,h6,h7,h8⟩
 case inr=>
  rw[if_neg (by simpa using h0),if_neg (by simpa using h3),if_neg (by simpa using h7)]
  refine acQ 48 Tryz.func38 rfl rfl fun _ _ _=> ?_
  (repeat'((conv=>whnf);refine NBr.neg asP ?_));(all_goals(conv=>whnf))
  all_goals exact NEnd.eq leQ
 case inl.inr.inr.inr.inr.inr.inr.inr.inl=>
  subst h
  rw[if_neg (by decide),if_neg (by decide),if_pos rfl]
  unfold ip
  have b1:=E4 by'.length 4
  have b2:=E4 by'.length 8
  have b3:=E4 by'.length 16
  have b4:=E4 by'.length 32
  generalize (by'.length==4)=c1 at b1⊢
  generalize (by'.length==8)=c2 at b2⊢
  generalize (by'.length==16)=c3 at b3⊢
  generalize (by'.length==32)=c4 at b4⊢
  cases c1<;>cases c2<;>cases c3<;>cases c4
  all_goals
   refine acQ 48 Tryz.func38 rfl rfl fun _ _ _=> ?_
   (repeat'((conv=>whnf);first|refine NBr.yes ?_|refine NBr.no ?_|refine NBr.pos asP ?_|refine NBr.neg asP ?_));(all_goals(conv=>whnf))
   all_goals(refine NEnd.eq ?_;(repeat'(first|exact Ak _|refine And.intro ?_ ?_|exact rfl));(all_goals(conv=>whnf)))
   all_goals exact b4
 case inl.inl=>
  subst h
  rw[if_pos rfl]
  refine acQ 48 Tryz.func38 rfl rfl fun _ _ _=> ?_
  (repeat'((conv=>whnf);first|refine NBr.yes ?_|refine NCall.eq hO Bg ?_));(all_goals(conv=>whnf))
  all_goals exact NEnd.eq leQ
 case inl.inr.inr.inr.inl=>
  subst h
  rw[if_neg (by decide),if_pos rfl]
  refine acQ 48 Tryz.func38 rfl rfl fun _ _ _=> ?_
  (repeat'((conv=>whnf);first|refine NBr.yes ?_|refine NBr.no ?_|refine NCall.eq hX Bg ?_|refine NCall.eq hO3 Bg ?_));(all_goals(conv=>whnf))
  all_goals exact NEnd.eq leQ
 all_goals
  subst h
  rw[if_neg (by decide),if_neg (by decide),if_neg (by decide)]
  refine acQ 48 Tryz.func38 rfl rfl fun _ _ _=> ?_
  (repeat'((conv=>whnf);refine NBr.no ?_));(all_goals(conv=>whnf))
  all_goals exact NEnd.eq leQ
def zT (k:Int) (l:List UInt8):Bool:=k==0&&l==[]
def alB (a b c d e:Bool) (g:Gn):Bool:=(a||g.oid==[])&&((b||g.tx==[])&&((c||(g.by'.length:Int)==0)&&((d||(g.nm.length:Int)==0)&&(e||(zT g.ak g.av&&zT g.pk g.pv)))))
def Bt (g:Gn):Bool:=alB (g.k==0||g.k==8) (g.k==1||(g.k==2||g.k==6)) (g.k==0||(g.k==3||g.k==7)) (g.k==4) (g.k==5) g
theorem pJ (g:Gn):Aa Tryz.prog 37 [gnA g] (fun r=>r=bv (Bt g)):=by
 obtain⟨k,oid,tx,by',nm,ak,av,pk,pv⟩:=g
 unfold Bt alB zT
 simp only
 rcases kW k with(h|h|h|h|h|h|h|h|h)|⟨h0,h1,h2,h3,h4,h5,h6,h7,h8⟩
 case inr=>
  rw[h0,h1,h2,h3,h4,h5,h6,h7,h8]
  refine acQ 86 Tryz.func37 rfl rfl fun _ _ _=> ?_
  (repeat'((conv=>whnf);first|refine NBr.yes ?_|refine NBr.no ?_|refine NBr.neg asP ?_|refine NStep.go (C5 rfl rfl (ltN rfl) rfl rfl) ?_|(refine NBr.dec (fun hc hcP=> ?_) (fun hc hcP=> ?_)<;>try(exfalso;omega))|refine NBr.mk (fun hc=> ?_) (fun hc=> ?_)));(all_goals(conv=>whnf))
  all_goals(refine NEnd.eq ?_;(repeat'(first|refine And.intro ?_ ?_|exact rfl));(all_goals(conv=>whnf)))
  all_goals(simp_all)
 all_goals
  subst h
  refine acQ 86 Tryz.func37 rfl rfl fun _ _ _=> ?_
  (repeat'((conv=>whnf);first|refine NBr.yes ?_|refine NBr.no ?_|refine NStep.go (C5 rfl rfl (ltN rfl) rfl rfl) ?_|(refine NBr.dec (fun hc hcP=> ?_) (fun hc hcP=> ?_)<;>try(exfalso;omega))|refine NBr.mk (fun hc=> ?_) (fun hc=> ?_)));(all_goals(conv=>whnf))
  all_goals(refine NEnd.eq ?_;(repeat'(first|refine And.intro ?_ ?_|exact rfl));(all_goals(conv=>whnf)))
  all_goals(simp_all)
def GU (a b:List UInt8):Nat→List UInt8
 |0=>[]
 |1=>a
 |_+2=>a++b
def Lv (g:Gn):Option (List UInt8):=
 if(zT g.ak g.av||Af g.ak g.av)&&Af g.pk g.pv then some ((if zT g.ak g.av then [] else Ae 2 0 true (txE g.ak g.av))++Ae 2 1 true (txE g.pk g.pv)) else none
def Dm (g:Gn):Option (List UInt8):=
 if g.k=0 then(if Dz g.oid then some (Ae 0 6 false (Au g.oid)++Ae 2 0 true g.by') else none)
 else if g.k=1∨g.k=2∨g.k=6 then(if Af 22 g.tx then some (chS 22 g.tx) else none)
 else if g.k=3∨g.k=7 then some g.by'
 else if g.k=4 then(if nmV g.nm then some (nmE g.nm) else none)
 else if g.k=5 then Lv g
 else if g.k=8 then(if Dz g.oid then some (Au g.oid) else none)
 else none
def IB:Option (List UInt8)→AV
 |some c=> .tup [.d (Ac false c),iv 0]
 |none=> .tup [.d (Ac false []),iv 8]
structure Gn.sm (g:Gn):Prop where
 o:g.oid.length≤3000000
 t:g.tx.length≤3000000
 b:g.by'.length≤3000000
 n:nmZ g.nm
 a:g.av.length≤3000000
 p:g.pv.length≤3000000
theorem Fb {k:Int} {l:List UInt8} (h:Af k l=true) (hl:l.length≤3000000):(txE k l).length≤4*l.length+6:=by
 have h4:=Fk h
 have:=Al 0 k.toNat false (chS k l) (by omega)
 unfold txE;omega
theorem CG {k:Int} {l:List UInt8} (hl:l.length≤3000000) (h:Af k l=true):Aa Tryz.prog 62 [txA k l] (fun r=>r= .tup [Aq 0 5 (txE k l),iv 0]):=by
 have:=Lu k l (by omega)
 rwa[frS,if_pos h] at this
theorem CH {k:Int} {l:List UInt8} (hl:l.length≤3000000) (h:Af k l=false):Aa Tryz.prog 62 [txA k l] (fun r=>r= .tup [Ao,iv 8]):=by
 have:=Lu k l (by omega)
 rwa[frS,if_neg (by rw[h];simp)] at this
theorem Sc {s:List UInt8} (h:Dz s=false):Vn s=8∧Au s=[]:=by
 unfold Dz at h;unfold Vn Au
 cases ha:Dv s with
 |none=>exact⟨rfl,rfl⟩
 |some a=>rw[ha] at h;cases h
theorem Kf {p:Prop} (h:p:=by first|rfl|(simp only[AV.gives,AV.ren,AV.give,D.un,D.uns,Ah,Ai,List.nil_append,List.append_nil,List.cons_append,Am,Av,Bv,A1,As,Bp,Bx,Cz,By];first|done|rfl)):p:=h
theorem Y8 (g:Gn) (hs:g.sm):Aa Tryz.prog 39 [gnA g] (fun r=>r=IB (Dm g)):=by
 obtain⟨k,oid,tx,by',nm,ak,av,pk,pv⟩:=g
 obtain⟨s1,s2,s3,s4,s5,s6⟩:=hs
 simp only at s1 s2 s3 s4 s5 s6
 have k1:=D5 oid
 have hE:=Ud oid (by omega)
 have hW:=Jp 0 6 false (Au oid) (by omega) (by omega) (by omega)
 have hX:=Ij 0 by' (by omega) (by omega)
 have hle:=Al 2 0 true by' (by omega)
 have hlo:=Al 0 6 false (Au oid) (by omega)
 have hCo:=Nu [Ae 0 6 false (Au oid),Ae 2 0 true by'] (by simp;omega) (by simp)
 rw[show [Ae 0 6 false (Au oid),Ae 2 0 true by'].flatten=Ae 0 6 false (Au oid)++Ae 2 0 true by' by simp] at hCo
 have hT:Aa Tryz.prog 60 [.agg [iv 22,.d (.v (.string ⟨⟨tx⟩⟩))]] (fun r=>r= .tup [.d (Ac true (Dl 22 tx)),iv (Gy 22 tx)]):=J5 22 tx (by omega)
 have hN:=pH nm s4
 unfold Dm
 simp only
 rcases kW k with(h|h|h|h|h|h|h|h|h)|⟨h0,h1,h2,h3,h4,h5,h6,h7,h8⟩
 case inr=>
  have e:¬k=0∧¬(k=1∨k=2∨k=6)∧¬(k=3∨k=7)∧¬k=4∧¬k=5∧¬k=8:=by
   simp only[beq_eq_false_iff_ne] at h0 h1 h2 h3 h4 h5 h6 h7 h8;omega
  rw[if_neg e.1,if_neg e.2.1,if_neg e.2.2.1,if_neg e.2.2.2.1,if_neg e.2.2.2.2.1,if_neg e.2.2.2.2.2]
  show Aa _ _ _ (fun r=>r= .tup [.d (Ac false []),iv 8])
  refine acQ 118 Tryz.func39 rfl rfl fun _ _ _=> ?_
  (repeat'((conv=>whnf);refine NBr.neg asP ?_));(all_goals(conv=>whnf))
  all_goals exact NEnd.eq leQ
 case inl.inl=>
  subst h
  rw[if_pos rfl]
  cases ho:Dz oid
  ·rw[(Sc ho).1,(Sc ho).2] at hE
   show Aa _ _ _ (fun r=>r= .tup [.d (Ac false []),iv 8])
   refine acQ 118 Tryz.func39 rfl rfl fun _ _ _=> ?_
   (repeat'((conv=>whnf);first|refine NBr.yes ?_|refine NCall.eq hE rfl ?_));(all_goals(conv=>whnf))
   all_goals exact NEnd.eq leQ
  ·rw[(Qa oid).1 ho] at hE
   show Aa _ _ _ (fun r=>r= .tup [.d (Ac false (Ae 0 6 false (Au oid)++Ae 2 0 true by')),iv 0])
   refine acQ 118 Tryz.func39 rfl rfl fun _ _ _=> ?_
   (repeat'((conv=>whnf);first|refine NBr.yes ?_|refine NBr.no ?_|refine NCall.eq hE rfl ?_|refine NCall.eq hW Kf ?_|refine NCall.eq hX Kf ?_|refine NCall.eq hCo Kf ?_));(all_goals(conv=>whnf))
   all_goals exact NEnd.eq leQ
 case inl.inr.inr.inr.inr.inl=>
  subst h
  rw[if_neg (by decide),if_neg (by decide),if_neg (by decide),if_pos rfl]
  cases ho:nmV nm
  ·rw[if_neg (by rw[ho];simp)] at hN
   show Aa _ _ _ (fun r=>r= .tup [.d (Ac false []),iv 8])
   refine acQ 118 Tryz.func39 rfl rfl fun _ _ _=> ?_
   (repeat'((conv=>whnf);first|refine NBr.yes ?_|refine NBr.no ?_|refine NCall.eq hN Kf ?_));(all_goals(conv=>whnf))
   all_goals exact NEnd.eq leQ
  ·rw[if_pos ho] at hN
   show Aa _ _ _ (fun r=>r= .tup [.d (Ac false (nmE nm)),iv 0])
   refine acQ 118 Tryz.func39 rfl rfl fun _ _ _=> ?_
   (repeat'((conv=>whnf);first|refine NBr.yes ?_|refine NBr.no ?_|refine NCall.eq hN Kf ?_));(all_goals(conv=>whnf))
   all_goals exact NEnd.eq leQ
 case inl.inr.inr.inr.inr.inr.inl=>
  subst h
  rw[if_neg (by decide),if_neg (by decide),if_neg (by decide),if_neg (by decide),if_pos rfl]
  unfold Lv
  simp only
  generalize hz:zT ak av=z
  have gz':(ak==0&&av==[])=z:=hz
  generalize hpre:(if z=true then [] else Ae 2 0 true (txE ak av))=pre
  have hprel:(z||Af ak av)=true→pre.length≤13000000:=fun h=>by
   cases z
   ·rw[Bool.false_or] at h
    have h1:=Fb h s5
    have h2:=Al 2 0 true (txE ak av) (by omega)
    rw[←hpre,if_neg (by simp)];omega
   ·rw[←hpre,if_pos rfl];simp
  refine acQ 118 Tryz.func39 rfl rfl fun _ _ _=> ?_
  (repeat'((conv=>whnf);first|refine NBr.yes ?_|refine NBr.no ?_));(all_goals(conv=>whnf))
  refine NLoop.goA [.s 8 1 5] (fun i:Nat=>i≤2∧(1≤i→(z||Af ak av)=true)∧(2≤i→Af pk pv=true)) (fun i=>2-i) (fun i=>⟨[(1,.ptr 1 0),(8,Aq 8 5 (GU pre (Ae 2 1 true (txE pk pv)) i)),(15,iv 5),(75,.d (.sl false 2 2 [iD ak,sD av,iD pk,sD pv])),(76,iv 2),(77,iv i)],[(1,[iv 5,.d (sD oid),.d (sD tx),.d (Ac false by'),.d (Ey nm),iv ak,.d (sD av),iv pk,.d (sD pv)])],[(8,((GU pre (Ae 2 1 true (txE pk pv)) i).length,1,5))]⟩) 0 ⟨by omega,by omega,by omega⟩ leQ ?_
  rintro i ⟨hi,hA,hP⟩
  match i,hi with
  |0,_=>
   cases z
   ·cases ha:Af ak av
    ·have hF:=CH s5 ha
     rw[show((false||false)&&Af pk pv)=false by rfl,if_neg (by simp)]
     (repeat'((conv=>whnf);first|refine NBr.yes ?_|refine NBr.neg asP ?_|refine NIdx.at 0 ?_|refine NStep.go (C5 rfl rfl (ltN rfl) rfl rfl) ?_|refine NCall.eq hF rfl ?_));(all_goals(conv=>whnf))
     all_goals exact NEnd.eq leQ
    ·have hF:=CG s5 ha
     have h1:=Fb ha s5
     have hX:=Ij 0 (txE ak av) (by omega) (by omega)
     have h2:=Al 2 0 true (txE ak av) (by omega)
     rw[if_neg (by simp)] at hpre
     rw[←hpre]
     (repeat'((conv=>whnf);first|refine NBr.yes ?_|refine NBr.no ?_|refine NBr.neg asP ?_|refine NIdx.at 0 ?_|refine NStep.go (C5 rfl rfl (ltN rfl) rfl rfl) ?_|refine NCall.eq hF rfl ?_|refine NCall.eq hX Kf ?_|(refine NApp.bytes ?_ (by show([]:List UInt8).length+_≤_;simp only[List.length_nil];omega))|(with_reducible refine NInt.i64 ?_)));(all_goals(conv=>whnf))
     refine⟨1,⟨by omega,fun _=>rfl,by omega⟩,by omega,?_⟩
     exact leQ
   ·rw[if_pos rfl] at hpre
    rw[←hpre]
    (repeat'((conv=>whnf);first|refine NBr.yes ?_|refine NBr.pos asP ?_|refine NIdx.at 0 ?_|refine NStep.go (C5 rfl rfl (ltN rfl) rfl rfl) ?_|(with_reducible refine NInt.i64 ?_)));(all_goals(conv=>whnf))
    refine⟨1,⟨by omega,fun _=>rfl,by omega⟩,by omega,?_⟩
    exact leQ
  |1,_=>
   have hA:=hA (by omega)
   have hpl:=hprel hA
   cases hp:Af pk pv
   ·have hF:=CH s6 hp
    rw[Bool.and_false,if_neg (by simp)]
    (repeat'((conv=>whnf);first|refine NBr.yes ?_|refine NBr.no ?_|refine NIdx.at 1 ?_|refine NCall.eq hF rfl ?_));(all_goals(conv=>whnf))
    all_goals exact NEnd.eq leQ
   ·have hF:=CG s6 hp
    have h1:=Fb hp s6
    have hX:=Ij 1 (txE pk pv) (by omega) (by omega)
    have h2:=Al 2 1 true (txE pk pv) (by omega)
    (repeat'((conv=>whnf);first|refine NBr.yes ?_|refine NBr.no ?_|refine NIdx.at 1 ?_|refine NCall.eq hF rfl ?_|refine NCall.eq hX Kf ?_|(refine NApp.bytes ?_ (by show pre.length+_≤_;omega))|(with_reducible refine NInt.i64 ?_)));(all_goals(conv=>whnf))
    refine⟨2,⟨by omega,fun _=>hA,fun _=>rfl⟩,by omega,?_⟩
    exact leQ
  |2,_=>
   rw[hA (by omega),hP (by omega)]
   (repeat'((conv=>whnf);refine NBr.no ?_));(all_goals(conv=>whnf))
   all_goals exact NEnd.eq leQ
 case inl.inr.inr.inr.inr.inr.inr.inr.inr=>
  subst h
  rw[if_neg (by decide),if_neg (by decide),if_neg (by decide),if_neg (by decide),if_neg (by decide),if_pos rfl]
  cases ho:Dz oid
  ·rw[(Sc ho).1,(Sc ho).2] at hE
   show Aa _ _ _ (fun r=>r= .tup [.d (Ac false []),iv 8])
   refine acQ 118 Tryz.func39 rfl rfl fun _ _ _=> ?_
   (repeat'((conv=>whnf);first|refine NBr.yes ?_|refine NBr.no ?_|refine NCall.eq hE rfl ?_));(all_goals(conv=>whnf))
   all_goals exact NEnd.eq leQ
  ·rw[(Qa oid).1 ho] at hE
   show Aa _ _ _ (fun r=>r= .tup [.d (Ac false (Au oid)),iv 0])
   refine acQ 118 Tryz.func39 rfl rfl fun _ _ _=> ?_
   (repeat'((conv=>whnf);first|refine NBr.yes ?_|refine NBr.no ?_|refine NCall.eq hE rfl ?_));(all_goals(conv=>whnf))
   all_goals exact NEnd.eq leQ
 case inl.inr.inr.inr.inl=>
  subst h
  rw[if_neg (by decide),if_neg (by decide),if_pos (by decide)]
  show Aa _ _ _ (fun r=>r= .tup [.d (Ac false by'),iv 0])
  refine acQ 118 Tryz.func39 rfl rfl fun _ _ _=> ?_
  (repeat'((conv=>whnf);first|refine NBr.yes ?_|refine NBr.no ?_));(all_goals(conv=>whnf))
  all_goals exact NEnd.eq leQ
 case inl.inr.inr.inr.inr.inr.inr.inr.inl=>
  subst h
  rw[if_neg (by decide),if_neg (by decide),if_pos (by decide)]
  show Aa _ _ _ (fun r=>r= .tup [.d (Ac false by'),iv 0])
  refine acQ 118 Tryz.func39 rfl rfl fun _ _ _=> ?_
  (repeat'((conv=>whnf);first|refine NBr.yes ?_|refine NBr.no ?_));(all_goals(conv=>whnf))
  all_goals exact NEnd.eq leQ
 all_goals
  subst h
  rw[if_neg (by decide),if_pos (by decide)]
  unfold Dl Gy at hT
  cases hv:Af 22 tx
  ·rw[hv] at hT
   show Aa _ _ _ (fun r=>r= .tup [.d (Ac false []),iv 8])
   refine acQ 118 Tryz.func39 rfl rfl fun _ _ _=> ?_
   (repeat'((conv=>whnf);first|refine NBr.yes ?_|refine NBr.no ?_|refine NCall.eq hT rfl ?_));(all_goals(conv=>whnf))
   all_goals exact NEnd.eq leQ
  ·rw[hv] at hT
   show Aa _ _ _ (fun r=>r= .tup [.d (Ac false (chS 22 tx)),iv 0])
   refine acQ 118 Tryz.func39 rfl rfl fun _ _ _=> ?_
   (repeat'((conv=>whnf);first|refine NBr.yes ?_|refine NBr.no ?_|refine NCall.eq hT rfl ?_));(all_goals(conv=>whnf))
   all_goals exact NEnd.eq leQ
end Go.Proofs.YtgmbmfoabndmoaaGreatDoor
