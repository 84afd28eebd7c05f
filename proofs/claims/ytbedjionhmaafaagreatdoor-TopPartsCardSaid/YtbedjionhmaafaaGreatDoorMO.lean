/- MO: the texts Att Att2 Dn Dn2 GenP GenQ GenC, one behind the other. No condition but what each lemma says. -/
import Derived.Test.YtbedjionhmaafaaGreatDoorMJ
set_option linter.all false
set_option maxRecDepth 100000
set_option maxHeartbeats 16000000
namespace Go.Proofs.YtbedjionhmaafaaGreatDoor
open Go.RowKit
variable {p:Prop} {k:Int} {l:List UInt8}
def Mc (b:List UInt8):Nat:=(Jk b).code
def N3 (b:List UInt8):Nat:=(Jk b).off
theorem Wp (b:List UInt8):N3 b≤b.length:=by
 have a:=Ls b 16 b.length Aa 0 Aa
 dsimp only at a
 unfold N3 Jk
 generalize Gh b 16 0 b.length=r at a
 by_cases h:r.code=0
 ·obtain⟨s,rfl,e,d⟩:=a.1 h
  by_cases f:s.stop<b.length
  ·rw[Nj f];exact d
  ·rw[Qm f];exact Nat.zero_le _
 ·obtain⟨e,d⟩:=a.2 h
  obtain⟨l,c,o⟩:=r
  have g:l=[]:=d
  subst g
  rw[Oy];exact e
theorem Qq (b:List UInt8) (i:b.length≤1000000000):(Mc b=0∧∃(a q m:Nat) (k:Bool) (l:List UInt8) (cs:List D),aC 68 [.d (By false b)] (.tup [.agg [iv a,iv q,bv k,.d (By true l),.d (.sl true m 5 cs)],erA 0 0]))∨
 (Mc b≠0∧aC 68 [.d (By false b)] (.tup [.agg [iv 0,iv 0,bv false,Ff,Ff],erA (Mc b) (N3 b)])):=by
 have e:=gG b i
 unfold Mc N3
 rcases gM b with⟨s,h⟩|⟨c,o,d,h⟩
 ·rw[h] at e⊢
  obtain⟨a,q,c,n,k,g,f⟩:=s
  exact .inl ⟨rfl,c,n,f.length,k,g,P4 true f,e⟩
 ·rw[h] at e⊢
  refine .inr ⟨d,?_⟩
  cases c with
  |zero=>exact Bg rfl d
  |succ c=>exact e
def bV (b:List UInt8):List UInt8:=(b.drop (Em b).x.body).take ((Em b).x.stop-(Em b).x.body)
def Yx (b:List UInt8):Bool:=(Em b).code==0&&((Em b).x.c==0&& !(Em b).x.k)
def T7 (b:List UInt8):Int:=if Yx b then Rx (Em b).x.n (bV b) else 0
def Xz (b:List UInt8):List UInt8:=if Yx b then Ke (Em b).x.n (bV b) else []
def jY (b:List UInt8):Bool:=Yx b&&Lz (Em b).x.n (bV b)==0
theorem NV (b:List UInt8):(bV b).length≤b.length:=by
 unfold bV;rw[Ec,Eh];omega
theorem Rc (h:p:=by first|rfl|(simp only[D8,AV.ren,AV.give,D.un,Ef,D7,D6,Ap,Am,Ak,Ea,Ep,Eo,F8,Ex,Ha];first|done|rfl)):p:=h
theorem jZ (b:List UInt8) (u:b.length≤1000000):aC 427 [.d (By false b)] (.tup [txA (T7 b) (Xz b),bv (jY b)]):=by
 have h:=Hj b Aa
 have m:=Fa b
 have e:=Wa (Em b).x.n (bV b) (by have:=NV b;omega)
 unfold T7 Xz jY
 have f:Yx b=((Em b).code==0&&((Em b).x.c==0&& !(Em b).x.k)):=rfl
 unfold bV at e⊢
 generalize Yx b=q at f⊢
 generalize Em b=r at h m e f⊢
 obtain⟨⟨c,n,k,p,a,d⟩,i,t⟩:=r
 simp only at m e f⊢
 by_cases j:i=0
 case neg=>
  have s:((i:Int) !=0)=true:=by rw[Av];omega
  have g:q=false:=by rw[f,show(i==0)=false by rw[An];exact j];rfl
  subst g
  refine acQ 41 Tryz.func427 rfl rfl fun _ _ _=> ?_
  (repeat'((conv=>whnf);first|refine zD ?_|refine Al h Rc ?_|exact zE))
 subst j
 by_cases o:c=0
 case neg=>
  have s:((c:Int) !=0)=true:=by rw[Av];omega
  have g:q=false:=by rw[f,show(c==0)=false by rw[An];exact o];rfl
  subst g
  refine acQ 41 Tryz.func427 rfl rfl fun _ _ _=> ?_
  (repeat'((conv=>whnf);first|refine zD ?_|refine Al h Rc ?_|exact zE))
 subst o
 cases k
 ·have g:q=true:=f
  subst g
  generalize Rx n ((b.drop a).take (d-a))=K at e⊢
  generalize Ke n ((b.drop a).take (d-a))=V at e⊢
  generalize Lz n ((b.drop a).take (d-a))=Z at e⊢
  refine acQ 41 Tryz.func427 rfl rfl fun _ _ _=> ?_
  (repeat'((conv=>whnf);first|refine Ee ?_|refine Al h Rc ?_|refine NSl.slice (a) (d) ?_|refine Al e Rc ?_|refine zF ?_|exact zE))
 ·have g:q=false:=f
  subst g
  refine acQ 41 Tryz.func427 rfl rfl fun _ _ _=> ?_
  (repeat'((conv=>whnf);first|refine zY ?_|refine Al h Rc ?_|exact zE))
def txE (k:Int) (l:List UInt8):List UInt8:=Ei 0 k.toNat false (chS k l)
def frS (k:Int) (l:List UInt8):AV:=if Ey k l=true then .tup [Hp 0 5 (txE k l),iv 0] else .tup [Ff,iv 8]
theorem bW (h:Ey k l=true):∃n:Nat,12≤n∧n≤30∧k=n:=by
 have a:¬E6 k<0:=fun b=>by rw[Yi b] at h;cases h
 rcases Nf k a with h|h|h|h|h|h|h<;>exact⟨k.toNat,Aa,Aa,Aa⟩
theorem X0 (h:Ey k l=true):(chS k l).length≤4*l.length:=by
 have f:Go.Lib.validD l=true:=by unfold Ey at h;simp at h;exact h.1.1
 rw[←CQ h]
 have g:(rns l).length≤l.length:=by
  have:=Cf List.length (Qb l f)
  have b:∀q:List Nat,q.length≤(q.flatMap enc).length:=by
   intro q
   induction q with
   |nil=>simp
   |cons a r c=>rw[A4,En,D9];have:=(N4 a).1;omega
  have:=b (rns l)
  omega
 have d:E6 k≤4:=by unfold E6;(repeat' split)<;>omega
 have e:∀q:List Nat,(q.flatMap (rX (E6 k))).length≤4*q.length:=by
  intro q
  induction q with
  |nil=>simp
  |cons a r c=>rw[A4,En,D9];have:=IY (E6 k) a d;omega
 have:=e (rns l)
 omega
theorem S0 (k:Int) (l:List UInt8) (h:l.length≤16777216):aC 386 [txA k l] (frS k l):=by
 have b:=V9 k l Aa
 unfold frS
 unfold Sh iO at b
 by_cases a:Ey k l=true
 ·rw[Aj a]
  rw[Aj a,Aj a] at b
  obtain⟨n,g,c,rfl⟩:=bW a
  have f:=X0 a
  have d:=J1 0 n false (chS (n:Int) l) Aa c Aa
  have e:txE (n:Int) l=Ei 0 n false (chS (n:Int) l):=by unfold txE;rw[Cr]
  rw[e]
  refine acQ 20 Tryz.func386 rfl rfl fun _ _ _=> ?_
  (repeat'((conv=>whnf);first|refine Ee ?_|refine Al b rfl ?_|refine Al d Rc ?_|exact zE))
 ·rw[Ai a]
  rw[Ai a,Ai a] at b
  refine acQ 20 Tryz.func386 rfl rfl fun _ _ _=> ?_
  (repeat'((conv=>whnf);first|refine Ej ?_|refine Al b rfl ?_|exact zE))
theorem NW (k:Int):aC 428 [iv k] (bv (k==22||k==26)):=by
 refine acQ 9 Tryz.func428 rfl rfl fun _ _ _=> ?_
 (repeat'((conv=>whnf);first|refine zY ?_|(refine E7 (fun b a=> ?_) (fun b a=> ?_)<;>try(exfalso;omega))));(all_goals(conv=>whnf))
 all_goals(refine E0 ?_;(repeat'(first|refine A1 ?_ ?_|exact rfl));(all_goals(conv=>whnf)))
 all_goals(simp_all)
def L0 (b:List UInt8):Bool:=jY b&&(!(Xz b==[])&& !(T7 b==22||T7 b==26))
def ep (b:List UInt8):AV:=if L0 b=true then .tup [txA (T7 b) (Xz b),bv true] else .tup [txA 0 [],bv false]
theorem eO (b:List UInt8) (f:b.length≤1000000):aC 413 [.d (By false b)] (ep b):=by
 have c:=jZ b f
 have d:=NW (T7 b)
 unfold ep
 have a:L0 b=(jY b&&(!(Xz b==[])&& !(T7 b==22||T7 b==26))):=rfl
 generalize L0 b=q at a⊢
 generalize T7 b=K at c d a⊢
 generalize Xz b=V at c a⊢
 generalize jY b=Z at c a
 generalize (K==22||K==26)=O at d a
 cases Z
 ·subst a
  refine acQ 27 Tryz.func413 rfl rfl fun _ _ _=> ?_
  (repeat'((conv=>whnf);first|refine Ej ?_|refine Al c Rc ?_|exact zE))
 ·cases e:(V==[])
  ·rw[e] at a
   cases O
   all_goals
    subst a
    refine acQ 27 Tryz.func413 rfl rfl fun _ _ _=> ?_
    (repeat'((conv=>whnf);first|refine zA ?_|refine Al c Rc ?_|refine Al d rfl ?_|exact zE))
  ·rw[e] at a
   subst a
   refine acQ 27 Tryz.func413 rfl rfl fun _ _ _=> ?_
   (repeat'((conv=>whnf);first|refine zD ?_|refine Al c Rc ?_|exact zE))
def atV (a:Att):Bool:=H7 a.oid&&Gt a.val
theorem Re (b:List UInt8):Gt b=(Mc b==0):=rfl
theorem Hw (h:p:=by first|rfl|(simp only[D8,AV.ren,AV.give,D.un,Ef,D7,D6,Ap,Am,Ak,Ea,Ep,Eo,F8,Ex,Ha];first|done|rfl)):p:=h
theorem oP (a:Att) (i:a.oid.length≤4000000) (j:a.val.length≤1000000000):aC 188 [atA a] (bv (atV a)):=by
 have d:=Kq a.oid i
 unfold atV
 rw[Re]
 generalize H7 a.oid=V at d⊢
 rcases Qq a.val j with⟨c,n,m,tm,tk,o,h,b⟩|⟨c,b⟩
 ·rw[c]
  cases V
  all_goals
   refine acQ 19 Tryz.func188 rfl rfl fun _ _ _=> ?_
   (repeat'((conv=>whnf);first|refine zY ?_|refine Al b Hw ?_|refine Al d rfl ?_|exact zE))
 ·generalize N3 a.val=tO at b
  generalize Mc a.val=e at b c⊢
  have g:((e:Int)==0)=false:=by rw[An];omega
  have f:(e==0)=false:=by rw[An];exact c
  cases V
  all_goals
   refine acQ 19 Tryz.func188 rfl rfl fun _ _ _=> ?_
   (repeat'((conv=>whnf);first|refine zY ?_|refine Al b Hw ?_|refine Al d rfl ?_));(all_goals(conv=>whnf))
   all_goals(refine E0 ?_;(repeat'(first|exact Er _|refine A1 ?_ ?_|exact rfl));(all_goals(conv=>whnf)))
  all_goals(rw[g,f];try rfl)
def atE (a:Att):List UInt8:=Ei 0 16 true (Ei 0 6 false (Gs a.oid)++a.val)
theorem kA {a:Att} (h:atV a=true):H7 a.oid=true∧Gt a.val=true:=by
 unfold atV at h;simpa using h
theorem eP (a:Att) (c:a.oid.length≤4000000) (j:a.val.length≤100000000):aC 162 [atA a] (if atV a=true then .tup [Hp 0 5 (atE a),iv 0] else .tup [Ff,iv 8]):=by
 have b:=oP a c Aa
 by_cases h:atV a=true
 ·rw[Aj h]
  rw[h] at b
  have d:=U2 a.oid c
  rw[(Tq a.oid).1 (kA h).1] at d
  have g:=Ma a.oid
  have f:=J1 0 6 false (Gs a.oid) Aa Aa Aa
  have i:=Ga 0 6 false (Gs a.oid) Aa
  have e:=L8 [Ei 0 6 false (Gs a.oid),a.val] Af Ab
  rw[show Ei 0 16 true [Ei 0 6 false (Gs a.oid),a.val].flatten=atE a by simp[atE]] at e
  refine acQ 35 Tryz.func162 rfl rfl fun _ _ _=> ?_
  (repeat'((conv=>whnf);first|refine Ee ?_|refine Al b Hw ?_|refine Al d rfl ?_|refine Al f Hw ?_|refine Al e Hw ?_|exact zE))
 ·rw[Ai h]
  rw[show atV a=false by simpa using h] at b
  refine acQ 35 Tryz.func162 rfl rfl fun _ _ _=> ?_
  (repeat'((conv=>whnf);first|refine Ej ?_|refine Al b Hw ?_|exact zE))
def atO (b:List UInt8):Option Att:=match Qp b with
 |some (id,s)=>if Gt s=true then some ⟨id,s⟩ else none
 |none=>none
def bX (b:List UInt8) (r:LR):Nat×Nat:=if r.code≠0 then(r.code,r.off) else match r.l with
 |[x,y]=>if x.isB 0 6 false=false then(3,x.at') else if odC (bod b x)≠0 then(odC (bod b x),x.body) else(Mc (elO b y),y.at'+N3 (elO b y))
 |_::_::z::_=>(2,z.at')
 |_=>(1,b.length)
def atU (a:Att):List D:=[sD a.oid,By true a.val]
def atR (o:Option Att) (e:Nat×Nat):AV:=match o with
 |some a=> .tup [.agg [sx a.oid,.d (By true a.val)],erA 0 0]
 |none=> .tup [.agg [sx [],Ff],erA e.1 e.2]
theorem Lj (c o:Int):aC 176 [iv c,iv o] (.tup [.agg [sx [],Ff],.agg [iv c,iv o]]):=by
 refine acQ 10 Tryz.func176 rfl rfl fun _ _ _=> ?_
 (all_goals(conv=>whnf))
 all_goals exact zE
theorem oQ (b:List UInt8) (Z:b.length≤800000):aC 148 [.d (By false b)] (atR (atO b) (bX b (Dn b 0 16))):=by
 have g:=Fc b 0 16 Aa
 have t:=fun x=>Ez (b:=b) (c:=0) (n:=16) (x:=x)
 have m:atO b=match oM b (Dn b 0 16) with
  |some (id,s)=>if Gt s=true then some ⟨id,s⟩ else none
  |none=>none:=rfl
 generalize Dn b 0 16=r at g t m⊢
 by_cases u:r.code≠0
 ·rw[Rb (.inl u)] at m
  rw[m]
  have d:=Lj r.code r.off
  rw[lrA,Aj u] at g
  have P:((r.code:Int) !=0)=true:=by rw[Av];omega
  rw[bX,Aj u]
  generalize r.code=c at g P d
  generalize r.off=o at g d
  refine acQ 127 Tryz.func148 rfl rfl fun _ _ _=> ?_
  (repeat'((conv=>whnf);first|refine Gp asP ?_|refine Al g Hw ?_|refine Al d rfl ?_|exact zE))
 rw[lrA,Ai u] at g
 rw[bX,Ai u]
 obtain⟨l,c,o⟩:=r
 obtain rfl:c=0:=As.1 u
 match l with
 |[]=>
  have e:atO b=none:=m
  rw[e]
  have d:=Lj 1 b.length
  refine acQ 127 Tryz.func148 rfl rfl fun _ _ _=> ?_
  (repeat'((conv=>whnf);first|refine zY ?_|refine Al g Hw ?_|refine Al d rfl ?_|exact zE))
 |[x]=>
  have e:atO b=none:=m
  rw[e]
  have d:=Lj 1 b.length
  refine acQ 127 Tryz.func148 rfl rfl fun _ _ _=> ?_
  (repeat'((conv=>whnf);first|refine zY ?_|refine Al g Hw ?_|refine Al d rfl ?_|exact zE))
 |x::y::z::q=>
  have e:atO b=none:=m
  rw[e]
  have d:=Lj 2 z.at'
  have N:(x::y::z::q:List El)[2]?=some z:=rfl
  refine acQ 127 Tryz.func148 rfl rfl fun _ _ _=> ?_
  (repeat'((conv=>whnf);first|refine Ee ?_|refine Al g Hw ?_|refine NIdx.tab (fun _=>rfl) N ?_|refine Al d rfl ?_|(refine NBr.mk (fun K=> ?_) (fun K=> ?_)<;>(have H:=K;(try simp only[D9,A3,Ar] at H)<;>first|(exfalso;omega)|skip))|exact zE))
 |[x,y]=>
  obtain⟨X,T,R⟩:=t x Ab
  obtain⟨U,y2,Y⟩:=t y Ab
  have v:=Fo x 0 6 false
  have J:(bod b x).length≤b.length:=by unfold bod;rw[Ec,Eh];omega
  have F:(elO b y).length≤b.length:=by unfold elO;rw[Ec,Eh];omega
  have i:=G5 (bod b x) Aa
  have E:=Gq (elO b y) Aa
  have j:=Qq (elO b y) Aa
  have w:=Wp (elO b y)
  have I:=Re (elO b y)
  have C:([x,y]:List El)[0]?=some x:=rfl
  have L:([x,y]:List El)[1]?=some y:=rfl
  have f:atO b=match(if x.isB 0 6 false=true∧odC (bod b x)=0 then some (odT (bod b x),elO b y) else none:Option (List UInt8×List UInt8)) with
   |some (id,s)=>if Gt s=true then some ⟨id,s⟩ else none
   |none=>none:=m
  show Es _ _ _ (fun r=>r=atR (atO b) (if x.isB 0 6 false=false then(3,x.at') else if odC (bod b x)≠0 then(odC (bod b x),x.body) else(Mc (elO b y),y.at'+N3 (elO b y))))
  cases M:x.isB 0 6 false
  ·rw[M] at v f
   rw[Ai Ab] at f
   rw[f,Aj rfl]
   have d:=Lj 3 x.at'
   refine acQ 127 Tryz.func148 rfl rfl fun _ _ _=> ?_
   (repeat'((conv=>whnf);first|refine zY ?_|refine Al g Hw ?_|refine NIdx.tab (fun _=>rfl) C ?_|refine Al v rfl ?_|refine Al d rfl ?_|exact zE))
  rw[M] at v f
  rw[Ai Ab]
  by_cases A:odC (bod b x)=0
  ·rw[Aj ⟨rfl,A⟩] at f
   rw[Ai Aa]
   have a:atO b=if Gt (elO b y)=true then some ⟨odT (bod b x),elO b y⟩ else none:=f
   rw[Ox,A] at i
   rw[I] at a
   unfold bod at i J a
   generalize odT ((b.drop x.body).take (x.stop-x.body))=ot at i a
   unfold elO at E j w F a⊢
   rcases j with⟨B,V,Q,tm,tk,W,O,j⟩|⟨B,j⟩
   ·rw[B] at a
    rw[Aj Ah] at a
    rw[a]
    refine acQ 127 Tryz.func148 rfl rfl fun _ _ _=> ?_
    (repeat'((conv=>whnf);first|refine Ee ?_|refine Al g Hw ?_|refine NIdx.tab (fun _=>rfl) C ?_|refine NIdx.tab (fun _=>rfl) L ?_|refine Al v rfl ?_|refine NSl.slice (x.body) (x.stop) ?_|refine NSl.slice (y.at') (y.stop) ?_|refine Al i Hw ?_|refine Al E Hw ?_|refine Al j Hw ?_|refine zF ?_|exact zE))
   ·rw[Ai (by rw[A9];exact B)] at a
    rw[a]
    have gd:((Mc ((b.drop y.at').take (y.stop-y.at')):Int) !=0)=true:=by rw[Av];omega
    have d:=Lj (Mc ((b.drop y.at').take (y.stop-y.at'))) ((y.at'+N3 ((b.drop y.at').take (y.stop-y.at')):Nat):Int)
    generalize N3 ((b.drop y.at').take (y.stop-y.at'))=tO at j w d⊢
    generalize Mc ((b.drop y.at').take (y.stop-y.at'))=tC at j B gd d⊢
    refine acQ 127 Tryz.func148 rfl rfl fun _ _ _=> ?_
    (repeat'((conv=>whnf);first|refine zD ?_|refine Al g Hw ?_|refine NIdx.tab (fun _=>rfl) C ?_|refine NIdx.tab (fun _=>rfl) L ?_|refine Al v rfl ?_|refine NSl.slice (x.body) (x.stop) ?_|refine NSl.slice (y.at') (y.stop) ?_|refine Al i Hw ?_|refine Al E Hw ?_|refine Al j Hw ?_|refine NInt.as (((y.at'+tO:Nat):Int)) ((by rw[Bl _ Aa];omega)) ?_|refine Al d rfl ?_|refine zF ?_|exact zE))
  ·rw[Ai (fun h=>A h.2)] at f
   rw[f,Aj A]
   have gd:((odC (bod b x):Int) !=0)=true:=by rw[Av];omega
   have d:=Lj (odC (bod b x)) x.body
   rw[Ox] at i
   unfold bod at i gd d⊢
   generalize odC ((b.drop x.body).take (x.stop-x.body))=oc at i gd d⊢
   generalize odT ((b.drop x.body).take (x.stop-x.body))=ot at i
   refine acQ 127 Tryz.func148 rfl rfl fun _ _ _=> ?_
   (repeat'((conv=>whnf);first|refine zD ?_|refine Al g Hw ?_|refine NIdx.tab (fun _=>rfl) C ?_|refine Al v rfl ?_|refine NSl.slice (x.body) (x.stop) ?_|refine Al i Hw ?_|refine Al d rfl ?_|refine zF ?_|exact zE))
theorem oR (b:List UInt8):atO b=none→(bX b (Dn b 0 16)).1≠0∧(bX b (Dn b 0 16)).2≤b.length:=by
 have a:=fun x=>Ez (b:=b) (c:=0) (n:=16) (x:=x)
 have d:=Hg b 0 16
 have t:atO b=match oM b (Dn b 0 16) with
  |some (id,s)=>if Gt s=true then some ⟨id,s⟩ else none
  |none=>none:=rfl
 rw[t]
 generalize Dn b 0 16=r at a d⊢
 intro h
 unfold bX
 by_cases f:r.code≠0
 ·rw[Aj f];exact⟨f,d⟩
 rw[Ai f]
 obtain⟨l,c,o⟩:=r
 obtain rfl:c=0:=As.1 f
 match l with
 |[]=>exact⟨Ab,At _⟩
 |[x]=>exact⟨Ab,At _⟩
 |x::y::z::q=>
  have:=a z Ab
  exact⟨Ab,by show z.at'≤_;omega⟩
 |[x,y]=>
  have A:=a x Ab
  have w:=a y Ab
  have v:(elO b y).length≤y.stop-y.at':=by unfold elO;rw[Ec];omega
  have u:=Wp (elO b y)
  have j:(match(if x.isB 0 6 false=true∧odC (bod b x)=0 then some (odT (bod b x),elO b y) else none:Option (List UInt8×List UInt8)) with
   |some (id,s)=>if Gt s=true then some (⟨id,s⟩:Att) else none
   |none=>none)=none:=h
  simp only
  cases m:x.isB 0 6 false
  ·rw[Aj rfl];exact⟨Ab,by show x.at'≤_;omega⟩
  rw[Ai Ab]
  by_cases g:odC (bod b x)=0
  ·rw[Ai Aa]
   rw[Aj ⟨m,g⟩] at j
   have i:(if Gt (elO b y)=true then some (⟨odT (bod b x),elO b y⟩:Att) else none)=none:=j
   rw[Re] at i
   refine⟨fun e=> ?_,by show y.at'+N3 (elO b y)≤_;omega⟩
   have e:Mc (elO b y)=0:=e
   rw[e,Aj Ah] at i;cases i
  ·rw[Aj g];exact⟨g,by show x.body≤_;omega⟩
def My (r:List Att):Bool:= !r.isEmpty&&(r.all atV&&Mw (r.map atE))
def Ka (r:List Att):List UInt8:=Ei 0 17 true (r.map atE).flatten
def nmV (n:List (List Att)):Bool:=n.all My
def nmE (n:List (List Att)):List UInt8:=Ei 0 16 true (n.map Ka).flatten
theorem Zo {r:List Att} (h:My r=true):r≠[]∧r.all atV=true∧Mw (r.map atE)=true:=by
 unfold My at h
 simp only[Et] at h
 exact⟨by rintro rfl;simp at h,h.2.1,h.2.2⟩
theorem kB {a:Type} {f:a→Bool} {l:List a} {i:Nat} {x:a} (h:l[i]?=some x) (b:f x=false):l.all f=false:=by
 cases c:l.all f with
 |false=>rfl
 |true=>rw[B0.1 c x (F9 h)] at b;cases b
theorem Qr (h:p:=by first|rfl|(simp only[D8,AV.ren,AV.give,D.un,Ef,D7,D6,Ap,Am,Ak,Bc,List.map_nil,L5,AV.frz,List.drop_zero,Ea,Ep,Eo,F8,Ex,Ha,Fy,E8];first|done|rfl)):p:=h
theorem vB (r:List Att) (i:Nat) {x:Att} (c:r[i]?=some x) (b:x.oid.length≤4000000∧x.val.length≤100000000):aC 161 [iv i,.d (.cp false [Uy r])] (if atV x=true then .tup [Hp 0 5 (atE x),iv 0] else .tup [Ff,iv 8]):=by
 have a:=eP x b.1 b.2
 by_cases h:atV x=true
 all_goals
  first|rw[Aj h] at a⊢ |rw[Ai h] at a⊢
  refine acQ 12 Tryz.func161 rfl rfl fun _ _ _=> ?_
  (repeat'((conv=>whnf);first|refine NIdx.tab (fun _=>rfl) c ?_|refine Al a Qr ?_|exact zE))
theorem kC (r:List Att) (v:r.length≤100000) (u:∀x∈r,x.oid.length≤4000000∧x.val.length≤100000000) (y:(r.map atE).flatten.length≤100000000) (n:∀x∈r,(atE x).length≤100000000):aC 125 [.agg [iv 17,bv true],iv r.length,.cl 161 [] [.d (.cp false [Uy r])]] (if r.all atV=true∧Mw (r.map atE)=true then .tup [Hp 0 5 (Ei 0 17 true (r.map atE).flatten),iv 0] else .tup [Ff,iv 8]):=by
 have q:=Ov 0 17 true (r.map atE) Aa Aa Aa (by rw[Ba];omega)
 have a:=Su (r.map atE) (by rw[Ba];omega) (fun p g=>by
  obtain⟨x,t,rfl⟩:=Cl.1 g
  have:=n x t;omega)
 refine acQ 43 Tryz.func125 rfl rfl fun _ _ _=> ?_
 (all_goals(conv=>whnf))
 refine F2 [.s 8 1 22] (fun i:Nat=>i≤r.length∧(r.take i).all atV=true) (fun i=>r.length-i) (fun i=>⟨[(2,.cl 161 [] [.d (.cp false [Uy r])]),(3,.ptr 3 0),(8,Fy 8 1 22 Iw ((r.take i).map atE)),(12,iv r.length),(13,iv i)],[(3,[iv 17,bv true])],[(8,(((r.take i).map atE).length,1,22))]⟩) 0 ⟨Aa,rfl⟩ leQ ?_
 rintro i ⟨w,f⟩
 have o:((r.take i).map atE).length≤100000:=by rw[Ba,Ec];omega
 by_cases e:i<r.length
 ·have s:decide ((i:Int)<r.length)=true:=Aq Aa
  obtain⟨x,b⟩:∃p,r[i]?=some p:=⟨_,Ev e⟩
  have c:=vB r i b (u x (F9 b))
  cases d:atV x
  ·rw[d,Ai Ab] at c
   rw[Ai (by rintro⟨h,-⟩;rw[kB b d] at h;cases h)]
   (repeat'((conv=>whnf);first|refine zD ?_|refine Al c Qr ?_|exact zE))
  ·rw[d,Aj rfl] at c
   have j:=Wo atE b
   (repeat'((conv=>whnf);first|refine zD ?_|refine Al c Qr ?_|refine E4 Iw (atE x) ?_|refine zI ?_));(all_goals(conv=>whnf))
   refine⟨i+1,⟨Aa,Og atV b d f⟩,Aa,?_⟩
   rw[j]
   exact leQ
 ·have s:decide ((i:Int)<r.length)=false:=Ao Aa
  obtain rfl:i=r.length:=Aa
  rw[Bv] at f⊢
  cases m:Mw (r.map atE)
  ·rw[m] at a
   rw[Ai (by rintro⟨-,h⟩;cases h)]
   (repeat'((conv=>whnf);first|refine zA ?_|refine Al a Qr ?_|exact zE))
  ·rw[m] at a
   rw[Aj ⟨f,rfl⟩]
   (repeat'((conv=>whnf);first|refine zA ?_|refine Al a Qr ?_|refine Al q Qr ?_|exact zE))
structure Att.sm (a:Att):Prop where
 o:a.oid.length≤3000000
 v:a.val.length≤3000000
theorem WG {a:Att} (h:a.sm):(atE a).length≤a.oid.length*5+a.val.length+20:=by
 have c:=Ma a.oid
 have:=h.o
 have:=h.v
 have d:=Ga 0 6 false (Gs a.oid) Aa
 have b:=Ga 0 16 true (Ei 0 6 false (Gs a.oid)++a.val) (by rw[En];omega)
 rw[En] at b
 have e:(atE a).length=(Ei 0 16 true (Ei 0 6 false (Gs a.oid)++a.val)).length:=rfl
 omega
structure rdnZ (r:List Att):Prop where
 l:r.length≤100000
 a:∀a∈r,a.sm
 e:(r.map atE).flatten.length≤90000000
structure nmZ (n:List (List Att)):Prop where
 l:n.length≤100000
 r:∀r∈n,rdnZ r
 e:(n.map Ka).flatten.length≤90000000
theorem bY (r:List Att) (f:rdnZ r):aC 127 [.d (Uy r)] (if My r=true then .tup [Hp 0 5 (Ka r),iv 0] else .tup [Ff,iv 8]):=by
 obtain⟨i,d,g⟩:=f
 have c:=kC r Aa (fun a b=>by have:=(d a b).o;have:=(d a b).v;exact⟨Aa,Aa⟩) Aa (fun a b=>by have:=WG (d a b);have:=(d a b).o;have:=(d a b).v;omega)
 cases r with
 |nil=>
  show Es _ _ _ (fun q=>q= .tup [Ff,iv 8])
  refine acQ 17 Tryz.func127 rfl rfl fun _ _ _=> ?_
  (repeat'((conv=>whnf);refine Ej ?_));(all_goals(conv=>whnf))
  all_goals exact zE
 |cons a q=>
  have e:(((a::q).length:Int)==0)=false:=by rw[An,D9];omega
  by_cases h:My (a::q)=true
  ·rw[Aj h]
   rw[Aj (Zo h).2] at c
   unfold Ka
   generalize (a::q)=r at c e
   refine acQ 17 Tryz.func127 rfl rfl fun _ _ _=> ?_
   (repeat'((conv=>whnf);first|refine He asP ?_|refine Al c Qr ?_|exact zE))
  ·rw[Ai h]
   rw[Ai (fun k=>h (by unfold My;rw[k.1,k.2];rfl))] at c
   generalize (a::q)=r at c e
   refine acQ 17 Tryz.func127 rfl rfl fun _ _ _=> ?_
   (repeat'((conv=>whnf);first|refine He asP ?_|refine Al c Qr ?_|exact zE))
theorem FV (r:List (List Att)) (i:Nat) {x:List Att} (b:r[i]?=some x) (c:rdnZ x):aC 126 [iv i,.d (.cp false [Kz r])] (if My x=true then .tup [Hp 0 5 (Ka x),iv 0] else .tup [Ff,iv 8]):=by
 have a:=bY x c
 by_cases h:My x=true
 all_goals
  first|rw[Aj h] at a⊢ |rw[Ai h] at a⊢
  refine acQ 12 Tryz.func126 rfl rfl fun _ _ _=> ?_
  (repeat'((conv=>whnf);first|refine NIdx.tab (fun _=>rfl) b ?_|refine Al a Qr ?_|exact zE))
theorem oS (r:List (List Att)) (o:r.length≤100000) (n:∀x∈r,rdnZ x) (s:(r.map Ka).flatten.length≤100000000) (_:∀x∈r,(Ka x).length≤100000000):aC 125 [.agg [iv 16,bv false],iv r.length,.cl 126 [] [.d (.cp false [Kz r])]] (if r.all My=true then .tup [Hp 0 5 (Ei 0 16 true (r.map Ka).flatten),iv 0] else .tup [Ff,iv 8]):=by
 have j:=Ov 0 16 true (r.map Ka) Aa Aa Aa (by rw[Ba];omega)
 refine acQ 43 Tryz.func125 rfl rfl fun _ _ _=> ?_
 (all_goals(conv=>whnf))
 refine F2 [.s 8 1 22] (fun i:Nat=>i≤r.length∧(r.take i).all My=true) (fun i=>r.length-i) (fun i=>⟨[(2,.cl 126 [] [.d (.cp false [Kz r])]),(3,.ptr 3 0),(8,Fy 8 1 22 Iw ((r.take i).map Ka)),(12,iv r.length),(13,iv i)],[(3,[iv 16,bv false])],[(8,(((r.take i).map Ka).length,1,22))]⟩) 0 ⟨Aa,rfl⟩ leQ ?_
 rintro i ⟨q,e⟩
 have g:((r.take i).map Ka).length≤100000:=by rw[Ba,Ec];omega
 by_cases d:i<r.length
 ·have m:decide ((i:Int)<r.length)=true:=Aq Aa
  obtain⟨x,a⟩:∃p,r[i]?=some p:=⟨_,Ev d⟩
  have b:=FV r i a (n x (F9 a))
  cases c:My x
  ·rw[c,Ai Ab] at b
   rw[Ai (by rintro h;rw[kB a c] at h;cases h)]
   (repeat'((conv=>whnf);first|refine zD ?_|refine Al b Qr ?_|exact zE))
  ·rw[c,Aj rfl] at b
   have f:=Wo Ka a
   (repeat'((conv=>whnf);first|refine zD ?_|refine Al b Qr ?_|refine E4 Iw (Ka x) ?_|refine zI ?_));(all_goals(conv=>whnf))
   refine⟨i+1,⟨Aa,Og My a c e⟩,Aa,?_⟩
   rw[f]
   exact leQ
 ·have m:decide ((i:Int)<r.length)=false:=Ao Aa
  obtain rfl:i=r.length:=Aa
  rw[Bv] at e⊢
  rw[Aj e]
  (repeat'((conv=>whnf);first|refine zA ?_|refine Al j Qr ?_|exact zE))
theorem Ty (n:List (List Att)) (h:nmZ n):aC 81 [.d (Kz n)] (if nmV n=true then .tup [Hp 0 5 (nmE n),iv 0] else .tup [Ff,iv 8]):=by
 have e:=h.e
 have d:=h.l
 have a:=oS n Aa h.r Aa (fun r c=>by
  have:=Lb (p:=Ka r) (l:=n.map Ka) (List.mem_map_of_mem c)
  omega)
 unfold nmV nmE
 by_cases b:n.all My=true
 all_goals
  first|rw[Aj b] at a⊢ |rw[Ai b] at a⊢
  refine acQ 14 Tryz.func81 rfl rfl fun _ _ _=> ?_
  (repeat'((conv=>whnf);refine Al a Qr ?_));(all_goals(conv=>whnf))
  all_goals exact zE
theorem NX (l:List (List UInt8)):Ef (l.flatMap Pp)=l.flatMap Pp:=by
 induction l with
 |nil=>rfl
 |cons p r a=>
  grind [D.un,By,Ef,Pp,D7]
def Y7 (r:List Att):D:=J5 true 2 atU r
theorem WH (l:List Att):Ef (l.flatMap atU)=l.flatMap atC:=by
 induction l with
 |nil=>rfl
 |cons m r a=>
  show D.un (sD m.oid)::D.un (By true m.val)::Ef (r.flatMap atU)=_
  rw[D7,a];rfl
theorem I4 (r:List Att):(Y7 r).un=Uy r:=by
 show D.sl false r.length 2 (Ef (r.flatMap atU))=_
 rw[WH];rfl
def gO (r:List Att):List D:=[Y7 r]
def gX (n:List (List Att)):D:=J5 true 1 gO n
theorem FW (n:List (List Att)):Ef (n.flatMap gO)=n.flatMap MI:=by
 induction n with
 |nil=>rfl
 |cons m r a=>
  show D.un (Y7 m)::Ef (r.flatMap gO)=_
  rw[I4,a];rfl
theorem Fi (n:List (List Att)):(gX n).un=Kz n:=by
 show D.sl false n.length 1 (Ef (n.flatMap gO))=_
 rw[FW];rfl
def oT (b:List UInt8):Nat×Nat:=bX b (Dn b 0 16)
def Y8 (b:List UInt8):List El→List (List UInt8)→List Att→Option (List Att)×Nat×Nat
 |[],_,out=>(some out,0,0)
 |x::r,ps,out=>match atO (elO b x) with
  |none=>(none,(oT (elO b x)).1,x.at'+(oT (elO b x)).2)
  |some a=>if Mw (ps++[elO b x])=true then Y8 b r (ps++[elO b x]) (out++[a]) else(none,7,x.at')
def NY (b:List UInt8) (r:LR):Option (List Att)×Nat×Nat:=if r.code≠0 then(none,r.code,r.off) else if r.l=[] then(none,1,b.length) else Y8 b r.l [] []
def Pf (b:List UInt8):Option (List Att)×Nat×Nat:=NY b (Dn b 0 17)
def my:Option (List Att)×Nat×Nat→AV
 |(some r,_,_)=> .tup [.d (Y7 r),erA 0 0]
 |(none,c,o)=> .tup [Ff,erA c o]
theorem Kr (b:List UInt8) (x:El):(elO b x).length≤b.length:=by grind [elO,Ec,Eh]
theorem S1 (b:List UInt8) (x:El):(elO b x).length≤x.stop-x.at':=by grind [elO,Ec]
theorem Nw (h:p:=by first|rfl|(simp only[D8,AV.ren,AV.give,D.un,Ef,D7,D6,Ap,Am,Ak,Ea,Ed,Ep,Eo,F8,Ex,Ha,Fy,E8,NX];first|done|rfl)):p:=h
theorem bZ (b:List UInt8) (Y:b.length≤800000):aC 109 [.d (By false b)] (my (Pf b)):=by
 have g:=Fc b 0 17 Aa
 have m:=fun x=>Ez (b:=b) (c:=0) (n:=17) (x:=x)
 have t:=F4 b 0 17
 unfold Pf
 generalize Dn b 0 17=R at g m t⊢
 unfold NY
 by_cases w:R.code≠0
 ·rw[Aj w]
  rw[lrA,Aj w] at g
  have K:((R.code:Int) !=0)=true:=by rw[Av];omega
  generalize R.code=c at g K
  generalize R.off=o at g
  show Es _ _ _ (fun r=>r= .tup [Ff,erA c o])
  refine acQ 76 Tryz.func109 rfl rfl fun _ _ _=> ?_
  (repeat'((conv=>whnf);first|refine Gp asP ?_|refine Al g Nw ?_|refine zF ?_|exact zE))
 rw[Ai w]
 rw[lrA,Ai w] at g
 generalize R.l=l at g m t⊢
 by_cases F:l=[]
 ·subst F
  show Es _ _ _ (fun r=>r= .tup [Ff,erA 1 b.length])
  refine acQ 76 Tryz.func109 rfl rfl fun _ _ _=> ?_
  (repeat'((conv=>whnf);first|refine zY ?_|refine Al g Nw ?_|exact zE))
 rw[Ai F]
 have X:((l.length:Int)==0)=false:=by rw[An];intro h;exact F (Bn Aa)
 generalize P:Y8 b l [] []=q
 refine acQ 76 Tryz.func109 rfl rfl fun _ _ _=> ?_
 (repeat'((conv=>whnf);first|refine zA ?_|refine Al g Nw ?_));(all_goals(conv=>whnf))
 refine F2 [.s 6 2 169,.s 7 1 22] (fun z:Nat×List (List UInt8)×List Att=>z.1≤l.length∧z.2.1.length≤z.1∧z.2.2.length≤z.1∧(∀p∈z.2.1,p.length≤b.length)∧q=Y8 b (l.drop z.1) z.2.1 z.2.2) (fun z=>l.length-z.1) (fun z=>⟨[(0,.d (By false b)),(3,.ptr 3 0),(6,Fy 6 2 169 atU z.2.2),(7,Fy 7 1 22 Pp z.2.1),(27,.d (Gw l)),(28,iv l.length),(29,iv z.1)],[(3,[iv 0,iv 0])],[(6,(z.2.2.length,2,169)),(7,(z.2.1.length,1,22))]⟩) (0,[],[]) ⟨Ab,Ab,Ab,Ab,by rw[List.drop_zero];exact P.symm⟩ leQ ?_
 rintro⟨i,ps,H⟩ ⟨Q,A,I,s,d⟩
 simp only at Q A I s d
 by_cases E:i<l.length
 ·have N:decide ((i:Int)<l.length)=true:=Aq Aa
  obtain⟨x,v⟩:∃p,l[i]?=some p:=⟨_,Ev E⟩
  obtain⟨W,V,U⟩:=m x (F9 v)
  have B:=Kr b x
  have M:=S1 b x
  have e:=oQ (elO b x) Aa
  have j:=oR (elO b x)
  rw[Lt v,Y8] at d
  have e:aC 148 [.d (By false (elO b x))] (atR (atO (elO b x)) (oT (elO b x))):=e
  have j:atO (elO b x)=none→(oT (elO b x)).1≠0∧(oT (elO b x)).2≤(elO b x).length:=j
  generalize oT (elO b x)=er at e j d
  cases y:atO (elO b x) with
  |none=>
   rw[y] at e d
   obtain⟨T,J⟩:=j y
   obtain⟨L,O⟩:=er
   simp only at T J d
   subst d
   have K:((L:Int) !=0)=true:=by rw[Av];omega
   have e:aC 148 [.d (By false (elO b x))] (.tup [.agg [sx [],Ff],erA L O]):=e
   unfold elO at e J
   (repeat'((conv=>whnf);first|refine Gp asP ?_|refine NIdx.tab (fun _=>rfl) v ?_|refine NSl.slice (x.at') (x.stop) ?_|refine E4 Pp ((b.drop x.at').take (x.stop-x.at')) ?_|refine Al e Nw ?_|refine zI ?_|refine zF ?_|exact zE))
  |some a=>
   rw[y] at e d
   have e:aC 148 [.d (By false (elO b x))] (.tup [.agg [sx a.oid,.d (By true a.val)],erA 0 0]):=e
   simp only at d
   have f:=Su (ps++[elO b x]) (by rw[En,Cc];omega) (fun p C=>by
    rcases Cm.1 C with h|h
    ·have:=s p h;omega
    ·rw[Bh.1 h];omega)
   unfold elO at e f d
   cases u:Mw (ps++[(b.drop x.at').take (x.stop-x.at')])
   ·rw[u] at f d
    rw[Ai Ab] at d
    subst d
    (repeat'((conv=>whnf);first|refine zD ?_|refine NIdx.tab (fun _=>rfl) v ?_|refine NSl.slice (x.at') (x.stop) ?_|refine E4 Pp ((b.drop x.at').take (x.stop-x.at')) ?_|refine Al e Nw ?_|refine Al f Nw ?_|refine zF ?_|exact zE))
   ·rw[u] at f d
    rw[Aj rfl] at d
    (repeat'((conv=>whnf);first|refine zD ?_|refine NIdx.tab (fun _=>rfl) v ?_|refine NSl.slice (x.at') (x.stop) ?_|refine E4 Pp ((b.drop x.at').take (x.stop-x.at')) ?_|refine Al e Nw ?_|refine Al f Nw ?_|refine E4 atU a ?_|refine zI ?_));(all_goals(conv=>whnf))
    refine⟨(i+1,ps++[(b.drop x.at').take (x.stop-x.at')],H++[a]),⟨by show i+1≤_;omega,Af,Af,fun p C=> ?_,d⟩,by show l.length-(i+1)<l.length-i;omega,?_⟩
    ·rcases Cm.1 C with h|h
     ·exact s p h
     ·rw[Bh.1 h];exact B
    ·exact leQ
 ·have N:decide ((i:Int)<l.length)=false:=Ao Aa
  obtain rfl:i=l.length:=Aa
  rw[List.drop_length,Y8] at d
  subst d
  (repeat'((conv=>whnf);refine He asP ?_));(all_goals(conv=>whnf))
  all_goals exact zE
def nmL (b:List UInt8):List El→List (List Att)→Option (List (List Att))×Nat×Nat
 |[],out=>(some out,0,0)
 |x::r,out=>match Pf (elO b x) with
  |(none,c,o)=>(none,c,x.at'+o)
  |(some a,_,_)=>nmL b r (out++[a])
def nmQ (b:List UInt8) (r:LR):Option (List (List Att))×Nat×Nat:=if r.code≠0 then(none,r.code,r.off) else nmL b r.l []
def nmR (b:List UInt8):Option (List (List Att))×Nat×Nat:=nmQ b (Dn b 0 16)
def nmA:Option (List (List Att))×Nat×Nat→AV
 |(some r,_,_)=> .tup [.d (gX r),erA 0 0]
 |(none,c,o)=> .tup [Ff,erA c o]
theorem zH (b:List UInt8):∀(l:List El) (ps:List (List UInt8)) (c:List Att),(∀x∈l,x.at'≤x.stop∧x.stop≤b.length)→(Y8 b l ps c).1=none→(Y8 b l ps c).2.1≠0∧(Y8 b l ps c).2.2≤b.length
 |[],_,_,_,h=>by cases h
 |x::r,ps,c,hx,h=>by
  have i:=S1 b x
  have f:atO (elO b x)=none→(oT (elO b x)).1≠0∧(oT (elO b x)).2≤(elO b x).length:=oR (elO b x)
  have:=hx x Ab
  rw[Y8] at h⊢
  cases e:atO (elO b x) with
  |none=>grind
  |some a=>
   rw[e] at h
   simp only at h⊢
   by_cases d:Mw (ps++[elO b x])=true
   ·rw[Aj d] at h⊢
    exact zH b r _ _ (fun y g=>hx y (by simp[g])) h
   grind
theorem kD (b:List UInt8) (h:(Pf b).1=none):(Pf b).2.1≠0∧(Pf b).2.2≤b.length:=by
 have e:=fun x=>Ez (b:=b) (c:=0) (n:=17) (x:=x)
 have a:=Hg b 0 17
 unfold Pf at h⊢
 generalize Dn b 0 17=R at e a h⊢
 unfold NY at h⊢
 by_cases d:R.code≠0
 ·rw[Aj d];exact⟨d,a⟩
 rw[Ai d] at h⊢
 by_cases f:R.l=[]
 ·grind
 ·rw[Ai f] at h⊢
  grind [zH]
theorem X1 (b:List UInt8) (O:b.length≤800000):aC 56 [.d (By false b)] (nmA (nmR b)):=by
 have f:=Fc b 0 16 Aa
 have g:=fun x=>Ez (b:=b) (c:=0) (n:=16) (x:=x)
 have h:=F4 b 0 16
 unfold nmR
 generalize Dn b 0 16=R at f g h⊢
 unfold nmQ
 by_cases m:R.code≠0
 ·rw[Aj m]
  rw[lrA,Aj m] at f
  have y:((R.code:Int) !=0)=true:=by rw[Av];omega
  generalize R.code=c at f y
  generalize R.off=o at f
  show Es _ _ _ (fun r=>r= .tup [Ff,erA c o])
  refine acQ 54 Tryz.func56 rfl rfl fun _ _ _=> ?_
  (repeat'((conv=>whnf);first|refine Gp asP ?_|refine Al f Nw ?_|refine zF ?_|exact zE))
 rw[Ai m]
 rw[lrA,Ai m] at f
 generalize R.l=l at f g h⊢
 generalize I:nmL b l []=q
 refine acQ 54 Tryz.func56 rfl rfl fun _ _ _=> ?_
 (repeat'((conv=>whnf);first|refine Ee ?_|refine Al f Nw ?_));(all_goals(conv=>whnf))
 refine F2 [.s 6 1 171] (fun z:Nat×List (List Att)=>z.1≤l.length∧z.2.length≤z.1∧q=nmL b (l.drop z.1) z.2) (fun z=>l.length-z.1) (fun z=>⟨[(0,.d (By false b)),(3,.ptr 3 0),(6,Fy 6 1 171 gO z.2),(20,.d (Gw l)),(21,iv l.length),(22,iv z.1)],[(3,[iv 0,iv 0])],[(6,(z.2.length,1,171))]⟩) (0,[]) ⟨Ab,Ab,by rw[List.drop_zero];exact I.symm⟩ leQ ?_
 rintro⟨i,u⟩ ⟨J,v,e⟩
 simp only at J v e
 by_cases t:i<l.length
 ·have C:decide ((i:Int)<l.length)=true:=Aq Aa
  obtain⟨x,s⟩:∃p,l[i]?=some p:=⟨_,Ev t⟩
  obtain⟨N,M,L⟩:=g x (F9 s)
  have E:=Kr b x
  have B:=S1 b x
  have d:=bZ (elO b x) Aa
  have j:=kD (elO b x)
  rw[Lt s,nmL] at e
  generalize Pf (elO b x)=er at d j e
  obtain⟨F,A,H⟩:=er
  cases F with
  |none=>
   obtain⟨K,w⟩:=j rfl
   simp only at K w e
   subst e
   have y:((A:Int) !=0)=true:=by rw[Av];omega
   have d:aC 109 [.d (By false (elO b x))] (.tup [Ff,erA A H]):=d
   unfold elO at d w
   (repeat'((conv=>whnf);first|refine Gp asP ?_|refine NIdx.tab (fun _=>rfl) s ?_|refine NSl.slice (x.at') (x.stop) ?_|refine Al d Nw ?_|refine zI ?_|refine zF ?_|exact zE))
  |some a=>
   simp only at e
   have d:aC 109 [.d (By false (elO b x))] (.tup [.d (Y7 a),erA 0 0]):=d
   unfold elO at d
   (repeat'((conv=>whnf);first|refine zD ?_|refine NIdx.tab (fun _=>rfl) s ?_|refine NSl.slice (x.at') (x.stop) ?_|refine Al d Nw ?_|refine E4 gO a ?_|refine zI ?_));(all_goals(conv=>whnf))
   refine⟨(i+1,u++[a]),⟨by show i+1≤_;omega,Af,e⟩,by show l.length-(i+1)<l.length-i;omega,?_⟩
   exact leQ
 ·have C:decide ((i:Int)<l.length)=false:=Ao Aa
  obtain rfl:i=l.length:=Aa
  rw[List.drop_length,nmL] at e
  subst e
  (repeat'((conv=>whnf);refine He asP ?_));(all_goals(conv=>whnf))
  all_goals exact zE
theorem NZ (b:List UInt8):∀(l:List El) (c:List (List Att)),(∀x∈l,x.at'≤x.stop∧x.stop≤b.length)→(nmL b l c).1=none→(nmL b l c).2.1≠0∧(nmL b l c).2.2≤b.length
 |[],_,_,h=>by cases h
 |x::r,c,hx,h=>by
  have g:=S1 b x
  have d:=kD (elO b x)
  have:=hx x Ab
  rw[nmL] at h⊢
  generalize Pf (elO b x)=er at d h⊢
  obtain⟨e,j,i⟩:=er
  cases e with
  |none=>grind
  |some a=>exact NZ b r _ (fun y f=>hx y (by simp[f])) h
theorem vC (b:List UInt8) (h:(nmR b).1=none):(nmR b).2.1≠0∧(nmR b).2.2≤b.length:=by
 have e:=fun x=>Ez (b:=b) (c:=0) (n:=16) (x:=x)
 have a:=Hg b 0 16
 unfold nmR at h⊢
 generalize Dn b 0 16=R at e a h⊢
 unfold nmQ at h⊢
 by_cases d:R.code≠0
 ·rw[Aj d];exact⟨d,a⟩
 rw[Ai d] at h⊢
 grind [NZ]
abbrev gnQ (g:Gn):AV:= .agg [iv g.k,.d (sD g.oid),.d (sD g.tx),.d (By true g.by'),.d (gX g.nm),iv g.ak,.d (sD g.av),iv g.pk,.d (sD g.pv)]
def gz:Gn:=⟨0,[],[],[],[],0,[],0,[]⟩
abbrev ptA (k:Int) (c:List UInt8):AV:= .agg [iv k,.d (By false c)]
abbrev gbA (p:Gn×Bool):AV:= .tup [gnQ p.1,bv p.2]
theorem Hx (h:p:=by first|rfl|(simp only[D8,AV.ren,AV.give,D.un,Ef,D7,D6,Ap,Am,Ak,Ea,Ed,G2,F8,Ex,Gv,Ha,I4,Fi];first|done|rfl)):p:=h
theorem X2 (k:Int) (c:List UInt8) (a:c.length≤1000000):aC 388 [ptA k c] (gbA (⟨k,[],Ke 22 c,[],[],0,[],0,[]⟩,Lz 22 c==0)):=by
 have b:=Wa 22 c a
 refine acQ 19 Tryz.func388 rfl rfl fun _ _ _=> ?_
 (repeat'((conv=>whnf);refine Al b Hx ?_));(all_goals(conv=>whnf))
 all_goals exact zE
theorem cA (k:Int) (c:List UInt8) (b:c.length≤1000000):aC 389 [ptA k c] (gbA (⟨k,[],[],c,[],0,[],0,[]⟩,true)):=by
 have a:=Gq c Aa
 refine acQ 10 Tryz.func389 rfl rfl fun _ _ _=> ?_
 (repeat'((conv=>whnf);first|refine Al a Hx ?_|refine zF ?_|exact zE))
theorem oU (k:Int) (c:List UInt8) (b:c.length≤800000):aC 392 [ptA k c] (gbA (⟨k,odT c,[],[],[],0,[],0,[]⟩,(odC c:Int)==0)):=by
 have a:=G5 c Aa
 rw[Ox] at a
 refine acQ 18 Tryz.func392 rfl rfl fun _ _ _=> ?_
 (repeat'((conv=>whnf);refine Al a Hx ?_));(all_goals(conv=>whnf))
 all_goals exact zE
def Wq (k:Int) (c:List UInt8):Gn×Bool:=match nmR c with
 |(some n,_,_)=>(⟨k,[],[],[],n,0,[],0,[]⟩,true)
 |(none,_,_)=>(⟨k,[],[],[],[],0,[],0,[]⟩,false)
theorem OA (k:Int) (c:List UInt8) (g:c.length≤800000):aC 390 [ptA k c] (gbA (Wq k c)):=by
 have a:=X1 c g
 have b:=vC c
 unfold Wq
 generalize nmR c=q at a b⊢
 obtain⟨n,d,e⟩:=q
 cases n with
 |none=>
  have h:=(b rfl).1
  simp only at h
  have f:((d:Int)==0)=false:=by rw[An];omega
  have a:aC 56 [.d (By false c)] (.tup [Ff,erA d e]):=a
  refine acQ 19 Tryz.func390 rfl rfl fun _ _ _=> ?_
  (repeat'((conv=>whnf);first|refine Al a Hx ?_|refine zF ?_));(all_goals(conv=>whnf))
  all_goals(refine E0 ?_;(repeat'(first|exact trivial|exact Er _|refine A1 ?_ ?_|exact rfl));(all_goals(conv=>whnf)))
  all_goals exact f
 |some n=>
  have a:aC 56 [.d (By false c)] (.tup [.d (gX n),erA 0 0]):=a
  refine acQ 19 Tryz.func390 rfl rfl fun _ _ _=> ?_
  (repeat'((conv=>whnf);first|refine Al a Hx ?_|refine zF ?_|exact zE))
theorem U4 {c p:List UInt8} (h:p∈H8 c):p.length≤c.length:=by
 unfold H8 at h
 split at h
 ·cases h
 ·obtain⟨x,-,rfl⟩:=Cl.1 h
  exact Kr c x
def inn (b:List UInt8) (n:Nat):List UInt8:=(Gj b n).getD []
theorem WI (b:List UInt8) (n:Nat) (a:b.length≤1000000000):aC 411 [.d (By false b),iv n] (ME (Gj b n)):=ER b n a
theorem Wr (b:List UInt8) (n:Nat):(inn b n).length≤b.length:=by
 unfold inn Gj
 split
 ·exact Nat.zero_le _
 ·show((b.drop _).take _).length≤_;rw[Ec,Eh];omega
def eQ (k:Int) (p q:List UInt8):Gn×Bool:=if(Em p).code≠0∨(Em p).x.isB 0 6 false=false then(gz,false) else
 (⟨k,odT (p.drop (Em p).x.body),[],inn q 0,[],0,[],0,[]⟩,(Gj q 0).isSome&&((odC (p.drop (Em p).x.body):Int)==0))
def T8 (k:Int) (c:List UInt8):Gn×Bool:=match H8 c with
 |[p,q]=>eQ k p q
 |_=>(gz,false)
theorem OB (k:Int) (c:List UInt8) (H:c.length≤800000):aC 387 [ptA k c] (gbA (T8 k c)):=by
 have f:=fY c Aa
 have s:=fun p=>U4 (c:=c) (p:=p)
 unfold T8
 generalize H8 c=l at f s⊢
 match l with
 |[]=>
  refine acQ 62 Tryz.func387 rfl rfl fun _ _ _=> ?_
  (repeat'((conv=>whnf);first|refine Ej ?_|refine Al f Hx ?_|exact zE))
 |[x]=>
  refine acQ 62 Tryz.func387 rfl rfl fun _ _ _=> ?_
  (repeat'((conv=>whnf);first|refine Ej ?_|refine Al f Hx ?_|exact zE))
 |x::y::z::r=>
  refine acQ 62 Tryz.func387 rfl rfl fun _ _ _=> ?_
  (repeat'((conv=>whnf);first|refine Ej ?_|refine Al f Hx ?_|exact zE))
 |[p,q]=>
  have F:=s p Ab
  have J:=s q Ab
  have o:([p,q]:List (List UInt8))[0]?=some p:=rfl
  have t:([p,q]:List (List UInt8))[1]?=some q:=rfl
  have i:=Hj p Aa
  have E:=Fa p
  have d:=Fo (Em p).x 0 6 false
  show Es _ _ _ (fun r=>r=gbA (eQ k p q))
  unfold eQ
  by_cases n:(Em p).code≠0
  ·rw[Aj (.inl n)]
   generalize Em p=r1 at i n
   have I:((r1.code:Int) !=0)=true:=by rw[Av];omega
   refine acQ 62 Tryz.func387 rfl rfl fun _ _ _=> ?_
   (repeat'((conv=>whnf);first|refine zD ?_|refine Al f Hx ?_|refine NIdx.tab (fun _=>rfl) o ?_|refine Al i Hx ?_|exact zE))
  have a:=As.1 n
  cases u:(Em p).x.isB 0 6 false
  ·rw[Aj (.inr rfl)]
   rw[u] at d
   generalize Em p=r1 at i a d
   obtain⟨j,A,B⟩:=r1
   simp only at a
   subst a
   refine acQ 62 Tryz.func387 rfl rfl fun _ _ _=> ?_
   (repeat'((conv=>whnf);first|refine zY ?_|refine Al f Hx ?_|refine NIdx.tab (fun _=>rfl) o ?_|refine Al i Hx ?_|refine Al d rfl ?_|exact zE))
  ·rw[Ai (by rintro(h|h);exact n h;cases h)]
   rw[u] at d
   have w:=E.1 a
   have g:=G5 (p.drop (Em p).x.body) (by rw[Eh];omega)
   have e:=WI q 0 Aa
   have C:=Wr q 0
   have b:=Gq (inn q 0) Aa
   rw[Ox] at g
   unfold inn at b⊢
   generalize Em p=r1 at i a d w g⊢
   obtain⟨j,A,B⟩:=r1
   simp only at a w d g⊢
   subst a
   generalize odT (p.drop j.body)=ot at g⊢
   generalize odC (p.drop j.body)=oc at g⊢
   cases m:Gj q 0 with
   |none=>
    rw[m] at e b
    have b:aC 67 [.d (By false [])] (.d (By true [])):=b
    have e:aC 411 [.d (By false q),iv 0] (.tup [Ff,bv false]):=e
    refine acQ 62 Tryz.func387 rfl rfl fun _ _ _=> ?_
    (repeat'((conv=>whnf);first|refine Ee ?_|refine Al f Hx ?_|refine NIdx.tab (fun _=>rfl) o ?_|refine NIdx.tab (fun _=>rfl) t ?_|refine Al i Hx ?_|refine Al d rfl ?_|refine So (j.body) ?_|refine Al g Hx ?_|refine Al e Hx ?_|refine H0 b J6 ?_|refine zF ?_|exact zE))
   |some v=>
    rw[m] at e b
    have b:aC 67 [.d (By false v)] (.d (By true v)):=b
    have e:aC 411 [.d (By false q),iv 0] (.tup [.d (By false v),bv true]):=e
    refine acQ 62 Tryz.func387 rfl rfl fun _ _ _=> ?_
    (repeat'((conv=>whnf);first|refine zY ?_|refine Al f Hx ?_|refine NIdx.tab (fun _=>rfl) o ?_|refine NIdx.tab (fun _=>rfl) t ?_|refine Al i Hx ?_|refine Al d rfl ?_|refine So (j.body) ?_|refine Al g Hx ?_|refine Al e Hx ?_|refine Al b Hx ?_|refine zF ?_|exact zE))
def pK (b:List UInt8):Int:=if L0 b=true then T7 b else 0
def pV (b:List UInt8):List UInt8:=if L0 b=true then Xz b else []
theorem kE (b:List UInt8) (a:b.length≤1000000):aC 413 [.d (By false b)] (.tup [txA (pK b) (pV b),bv (L0 b)]):=by
 have h:=eO b a
 unfold ep at h
 unfold pK pV
 cases c:L0 b
 all_goals
  rw[c] at h
  exact h
def Rf (k:Int) (q:List UInt8) (ak:Int) (av:List UInt8):Gn×Bool:=(⟨k,[],[],[],[],ak,av,pK (inn q 1),pV (inn q 1)⟩,(Gj q 1).isSome&&L0 (inn q 1))
def Rg (k:Int) (c:List UInt8):Gn×Bool:=match H8 c with
 |[p,q]=>if(Gj p 0).isSome&&L0 (inn p 0) then Rf k q (pK (inn p 0)) (pV (inn p 0)) else(gz,false)
 |[q]=>Rf k q 0 []
 |_=>(gz,false)
theorem Lc {b v:List UInt8} {n:Nat} (h:Gj b n=some v):inn b n=v:=by unfold inn;rw[h];rfl
theorem cB {b:List UInt8} {n:Nat} (h:Gj b n=none):inn b n=[]:=by unfold inn;rw[h];rfl
theorem Gr (h:p:=by first|rfl|(simp only[D8,AV.ren,AV.give,D.un,Ef,D7,D6,Ap,Am,Ak,Ea,Ed,G2,F8,Ex,Gv,Ha,I4,Fi];first|done|rfl)):p:=h
theorem OC (k:Int) (c:List UInt8) (w:c.length≤800000):aC 391 [ptA k c] (gbA (Rg k c)):=by
 have h:=fY c Aa
 have m:=fun p=>U4 (c:=c) (p:=p)
 unfold Rg
 generalize H8 c=l at h m⊢
 match l with
 |[]=>
  refine acQ 69 Tryz.func391 rfl rfl fun _ _ _=> ?_
  (repeat'((conv=>whnf);first|refine zY ?_|refine Al h Gr ?_|exact zE))
 |x::y::z::r=>
  refine acQ 69 Tryz.func391 rfl rfl fun _ _ _=> ?_
  (repeat'((conv=>whnf);first|refine zY ?_|refine Al h Gr ?_|exact zE))
 |[q]=>
  have t:=m q Ab
  have i:([q]:List (List UInt8))[0]?=some q:=rfl
  have f:=WI q 1 Aa
  have n:=Wr q 1
  have d:=kE (inn q 1) Aa
  show Es _ _ _ (fun r=>r=gbA (Rf k q 0 []))
  unfold Rf
  cases e:Gj q 1 with
  |none=>
   rw[e] at f
   rw[cB e] at d⊢
   have f:aC 411 [.d (By false q),iv 1] (.tup [Ff,bv false]):=f
   generalize pK []=K at d⊢
   generalize pV []=V at d⊢
   generalize L0 []=O at d⊢
   refine acQ 69 Tryz.func391 rfl rfl fun _ _ _=> ?_
   (repeat'((conv=>whnf);first|refine Ee ?_|refine Al h Gr ?_|refine NIdx.tab (fun _=>rfl) i ?_|refine Al f Gr ?_|refine H0 d J6 ?_|exact zE))
  |some v=>
   rw[e] at f
   rw[Lc e] at d⊢
   have f:aC 411 [.d (By false q),iv 1] (.tup [.d (By false v),bv true]):=f
   generalize pK v=K at d⊢
   generalize pV v=V at d⊢
   generalize L0 v=O at d⊢
   refine acQ 69 Tryz.func391 rfl rfl fun _ _ _=> ?_
   (repeat'((conv=>whnf);first|refine zY ?_|refine Al h Gr ?_|refine NIdx.tab (fun _=>rfl) i ?_|refine Al f Gr ?_|refine Al d Gr ?_|exact zE))
 |[p,q]=>
  have u:=m p Ab
  have t:=m q Ab
  have i:([p,q]:List (List UInt8))[0]?=some p:=rfl
  have o:([q]:List (List UInt8))[0]?=some q:=rfl
  have b:=WI p 0 Aa
  have s:=Wr p 0
  have a:=kE (inn p 0) Aa
  have f:=WI q 1 Aa
  have n:=Wr q 1
  have d:=kE (inn q 1) Aa
  show Es _ _ _ (fun r=>r=gbA (if(Gj p 0).isSome&&L0 (inn p 0) then Rf k q (pK (inn p 0)) (pV (inn p 0)) else(gz,false)))
  cases g:Gj p 0 with
  |none=>
   rw[g] at b
   rw[cB g] at a
   have b:aC 411 [.d (By false p),iv 0] (.tup [Ff,bv false]):=b
   rw[Ai Ab]
   generalize pK []=K at a
   generalize pV []=V at a
   generalize L0 []=O at a
   refine acQ 69 Tryz.func391 rfl rfl fun _ _ _=> ?_
   (repeat'((conv=>whnf);first|refine Ej ?_|refine Al h Gr ?_|refine NIdx.tab (fun _=>rfl) i ?_|refine Al b Gr ?_|refine H0 a J6 ?_|exact zE))
  |some v=>
   rw[g] at b
   rw[Lc g] at a⊢
   have b:aC 411 [.d (By false p),iv 0] (.tup [.d (By false v),bv true]):=b
   cases j:L0 v
   ·rw[j] at a
    rw[Ai Ab]
    refine acQ 69 Tryz.func391 rfl rfl fun _ _ _=> ?_
    (repeat'((conv=>whnf);first|refine zY ?_|refine Al h Gr ?_|refine NIdx.tab (fun _=>rfl) i ?_|refine Al b Gr ?_|refine Al a Gr ?_|exact zE))
   rw[j] at a
   rw[Aj Ah]
   generalize pK v=K0 at a⊢
   generalize pV v=V0 at a⊢
   unfold Rf
   cases e:Gj q 1 with
   |none=>
    rw[e] at f
    rw[cB e] at d⊢
    have f:aC 411 [.d (By false q),iv 1] (.tup [Ff,bv false]):=f
    generalize pK []=K at d⊢
    generalize pV []=V at d⊢
    generalize L0 []=O at d⊢
    refine acQ 69 Tryz.func391 rfl rfl fun _ _ _=> ?_
    (repeat'((conv=>whnf);first|refine zY ?_|refine Al h Gr ?_|refine NIdx.tab (fun _=>rfl) i ?_|refine Al b Gr ?_|refine Al a Gr ?_|refine NSl.tab (fun _=>rfl) 1 2 [q] rfl ?_|refine NIdx.tab (fun _=>rfl) o ?_|refine Al f Gr ?_|refine H0 d J6 ?_|refine zF ?_|exact zE))
   |some v=>
    rw[e] at f
    rw[Lc e] at d⊢
    have f:aC 411 [.d (By false q),iv 1] (.tup [.d (By false v),bv true]):=f
    generalize pK v=K at d⊢
    generalize pV v=V at d⊢
    generalize L0 v=O at d⊢
    refine acQ 69 Tryz.func391 rfl rfl fun _ _ _=> ?_
    (repeat'((conv=>whnf);first|refine zY ?_|refine Al h Gr ?_|refine NIdx.tab (fun _=>rfl) i ?_|refine Al b Gr ?_|refine Al a Gr ?_|refine NSl.tab (fun _=>rfl) 1 2 [q] rfl ?_|refine NIdx.tab (fun _=>rfl) o ?_|refine Al f Gr ?_|refine Al d Gr ?_|refine zF ?_|exact zE))
theorem gP (b:List UInt8) (f:b.length≤1000000000):aC 383 [.d (By false b)] (bv (Gt b)):=by
 rw[Re]
 rcases Qq b f with⟨c,i,h,tm,tk,j,g,a⟩|⟨c,a⟩
 ·rw[c]
  refine acQ 13 Tryz.func383 rfl rfl fun _ _ _=> ?_
  (repeat'((conv=>whnf);refine Al a Gr ?_));(all_goals(conv=>whnf))
  all_goals exact zE
 ·generalize N3 b=tO at a
  generalize Mc b=d at a c⊢
  have e:((d:Int)==0)=(d==0):=Qh d 0
  refine acQ 13 Tryz.func383 rfl rfl fun _ _ _=> ?_
  (repeat'((conv=>whnf);refine Al a Gr ?_));(all_goals(conv=>whnf))
  all_goals(refine E0 ?_;(repeat'(first|refine A1 ?_ ?_|exact rfl));(all_goals(conv=>whnf)))
  all_goals exact e
theorem Pq (n:Nat) (b:List UInt8) (a:n≤30) (c:b.length≤900000000):aC 384 [iv n,.d (By false b)] (.tup [Hp 0 5 (Ei 2 n true b),iv 0]):=by
 have d:=J1 2 n true b Aa a c
 refine acQ 12 Tryz.func384 rfl rfl fun _ _ _=> ?_
 (repeat'((conv=>whnf);refine Al d Gr ?_));(all_goals(conv=>whnf))
 all_goals exact zE
theorem zJ (k:Int):(k=0∨k=1∨k=2∨k=3∨k=4∨k=5∨k=6∨k=7∨k=8)∨((k==0)=false∧(k==1)=false∧(k==2)=false∧(k==3)=false∧(k==4)=false∧(k==5)=false∧(k==6)=false∧(k==7)=false∧(k==8)=false):=by
 simp only[An];omega
def Jq (k:Int):Bool:=k==0||(k==3||(k==4||k==5))
theorem oV (k:Int):aC 337 [iv k] (bv (Jq k)):=by
 rcases zJ k with(h|h|h|h|h|h|h|h|h)|⟨a,e,i,b,c,d,f,j,g⟩
 case inr=>
  rw[show Jq k=false by unfold Jq;rw[a,b,c,d];rfl]
  refine acQ 9 Tryz.func337 rfl rfl fun _ _ _=> ?_
  (repeat'((conv=>whnf);refine He asP ?_));(all_goals(conv=>whnf))
  all_goals exact zE
 all_goals
  subst h
  refine acQ 9 Tryz.func337 rfl rfl fun _ _ _=> ?_
  (repeat'((conv=>whnf);first|refine zY ?_|exact zE))
def ip (n:Nat):Bool:=n==4||(n==8||(n==16||n==32))
def cC (g:Gn):Bool:=if g.k=0 then Gt g.by' else if g.k=3 then Gt (Ei 2 3 true g.by') else if g.k=7 then ip g.by'.length else true
theorem gQ (g:Gn) (s:g.by'.length≤100000000):aC 335 [gnA g] (bv (cC g)):=by
 obtain⟨k,d,C,a,w,B,E,pk,x⟩:=g
 simp only at s
 have q:=gP a Aa
 have f:=Pq 3 a Aa Aa
 have i:=Ga 2 3 true a Aa
 have b:=gP (Ei 2 3 true a) Aa
 unfold cC
 simp only
 rcases zJ k with(h|h|h|h|h|h|h|h|h)|⟨r,t,A,e,u,z,y,o,v⟩
 case inr=>
  rw[Ai (by simpa using r),Ai (by simpa using e),Ai (by simpa using o)]
  refine acQ 48 Tryz.func335 rfl rfl fun _ _ _=> ?_
  (repeat'((conv=>whnf);refine He asP ?_));(all_goals(conv=>whnf))
  all_goals exact zE
 case inl.inr.inr.inr.inr.inr.inr.inr.inl=>
  subst h
  rw[Ai Ae,Ai Ae,Aj rfl]
  unfold ip
  have j:=Qh a.length 4
  have m:=Qh a.length 8
  have n:=Qh a.length 16
  have c:=Qh a.length 32
  generalize (a.length==4)=c1 at j⊢
  generalize (a.length==8)=c2 at m⊢
  generalize (a.length==16)=c3 at n⊢
  generalize (a.length==32)=c4 at c⊢
  cases c1<;>cases c2<;>cases c3<;>cases c4
  all_goals
   refine acQ 48 Tryz.func335 rfl rfl fun _ _ _=> ?_
   (repeat'((conv=>whnf);first|refine zD ?_|refine He asP ?_));(all_goals(conv=>whnf))
   all_goals(refine E0 ?_;(repeat'(first|exact Er _|refine A1 ?_ ?_|exact rfl));(all_goals(conv=>whnf)))
   all_goals exact c
 case inl.inl=>
  subst h
  rw[Aj rfl]
  refine acQ 48 Tryz.func335 rfl rfl fun _ _ _=> ?_
  (repeat'((conv=>whnf);first|refine Ej ?_|refine Al q Gr ?_|exact zE))
 case inl.inr.inr.inr.inl=>
  subst h
  rw[Ai Ae,Aj rfl]
  refine acQ 48 Tryz.func335 rfl rfl fun _ _ _=> ?_
  (repeat'((conv=>whnf);first|refine zY ?_|refine Al f Gr ?_|refine Al b Gr ?_|exact zE))
 all_goals
  subst h
  rw[Ai Ae,Ai Ae,Ai Ae]
  refine acQ 48 Tryz.func335 rfl rfl fun _ _ _=> ?_
  (repeat'((conv=>whnf);refine Ee ?_));(all_goals(conv=>whnf))
  all_goals exact zE
def zT (k:Int) (l:List UInt8):Bool:=k==0&&l==[]
def alB (a b c d e:Bool) (g:Gn):Bool:=(a||g.oid==[])&&((b||g.tx==[])&&((c||(g.by'.length:Int)==0)&&((d||(g.nm.length:Int)==0)&&(e||(zT g.ak g.av&&zT g.pk g.pv)))))
def Mz (g:Gn):Bool:=alB (g.k==0||g.k==8) (g.k==1||(g.k==2||g.k==6)) (g.k==0||(g.k==3||g.k==7)) (g.k==4) (g.k==5) g
theorem FX (g:Gn):aC 334 [gnA g] (bv (Mz g)):=by
 obtain⟨k,e,v,d,s,u,w,pk,t⟩:=g
 unfold Mz alB zT
 simp only
 rcases zJ k with(h|h|h|h|h|h|h|h|h)|⟨r,c,o,f,i,n,m,q,j⟩
 case inr=>
  rw[r,c,o,f,i,n,m,q,j]
  refine acQ 86 Tryz.func334 rfl rfl fun _ _ _=> ?_
  (repeat'((conv=>whnf);first|refine zA ?_|refine Cs (Qj rfl rfl (ltN rfl) rfl rfl) ?_|(refine E7 (fun b a=> ?_) (fun b a=> ?_)<;>try(exfalso;omega))|refine NBr.mk (fun b=> ?_) (fun b=> ?_)));(all_goals(conv=>whnf))
  all_goals(refine E0 ?_;(repeat'(first|refine A1 ?_ ?_|exact rfl));(all_goals(conv=>whnf)))
  all_goals(simp_all)
 all_goals
  subst h
  refine acQ 86 Tryz.func334 rfl rfl fun _ _ _=> ?_
  (repeat'((conv=>whnf);first|refine zY ?_|refine Cs (Qj rfl rfl (ltN rfl) rfl rfl) ?_|(refine E7 (fun b a=> ?_) (fun b a=> ?_)<;>try(exfalso;omega))|refine NBr.mk (fun b=> ?_) (fun b=> ?_)));(all_goals(conv=>whnf))
  all_goals(refine E0 ?_;(repeat'(first|refine A1 ?_ ?_|exact rfl));(all_goals(conv=>whnf)))
  all_goals(simp_all)
def kh (a b:List UInt8):Nat→List UInt8
 |0=>[]
 |1=>a
 |_+2=>a++b
def kF (g:Gn):Option (List UInt8):=
 if(zT g.ak g.av||Ey g.ak g.av)&&Ey g.pk g.pv then some ((if zT g.ak g.av then [] else Ei 2 0 true (txE g.ak g.av))++Ei 2 1 true (txE g.pk g.pv)) else none
def Nx (g:Gn):Option (List UInt8):=
 if g.k=0 then(if H7 g.oid then some (Ei 0 6 false (Gs g.oid)++Ei 2 0 true g.by') else none)
 else if g.k=1∨g.k=2∨g.k=6 then(if Ey 22 g.tx then some (chS 22 g.tx) else none)
 else if g.k=3∨g.k=7 then some g.by'
 else if g.k=4 then(if nmV g.nm then some (nmE g.nm) else none)
 else if g.k=5 then kF g
 else if g.k=8 then(if H7 g.oid then some (Gs g.oid) else none)
 else none
def mz:Option (List UInt8)→AV
 |some c=> .tup [.d (By false c),iv 0]
 |none=> .tup [.d (By false []),iv 8]
structure Gn.sm (g:Gn):Prop where
 o:g.oid.length≤3000000
 t:g.tx.length≤3000000
 b:g.by'.length≤3000000
 n:nmZ g.nm
 a:g.av.length≤3000000
 p:g.pv.length≤3000000
theorem Tz (h:Ey k l=true) (a:l.length≤3000000):(txE k l).length≤4*l.length+6:=by
 have b:=X0 h
 have:=Ga 0 k.toNat false (chS k l) Aa
 unfold txE;omega
theorem bj (a:l.length≤3000000) (h:Ey k l=true):aC 386 [txA k l] (.tup [Hp 0 5 (txE k l),iv 0]):=by
 have:=S0 k l Aa
 rwa[frS,Aj h] at this
theorem bk (a:l.length≤3000000) (h:Ey k l=false):aC 386 [txA k l] (.tup [Ff,iv 8]):=by
 have:=S0 k l Aa
 rwa[frS,Ai (by rw[h];simp)] at this
theorem Zp {s:List UInt8} (h:H7 s=false):FA s=8∧Gs s=[]:=by
 unfold H7 at h;unfold FA Gs
 cases b:La s with
 |none=>exact⟨rfl,rfl⟩
 |some a=>rw[b] at h;cases h
theorem Rh (h:p:=by first|rfl|(simp only[D8,AV.ren,AV.give,D.un,Ef,D7,D6,Ap,Am,Ak,Ea,Ed,G2,F8,Ex,Gv,Ha,I4,Fi];first|done|rfl)):p:=h
theorem kG (g:Gn) (hs:g.sm):aC 336 [gnA g] (mz (Nx g)):=by
 obtain⟨k,a,o,c,A,f,d,pk,m⟩:=g
 obtain⟨Y,s2,T,J,x,C⟩:=hs
 simp only at Y s2 T J x C
 have k1:=Ma a
 have n:=U2 a Aa
 have V:=J1 0 6 false (Gs a) Aa Aa Aa
 have v:=Pq 0 c Aa Aa
 have K:=Ga 2 0 true c Aa
 have M:=Ga 0 6 false (Gs a) Aa
 have t:=Ou [Ei 0 6 false (Gs a),Ei 2 0 true c] Af Ab
 rw[show [Ei 0 6 false (Gs a),Ei 2 0 true c].flatten=Ei 0 6 false (Gs a)++Ei 2 0 true c by simp] at t
 have w:aC 385 [.agg [iv 22,.d (.v (.string ⟨⟨o⟩⟩))]] (.tup [.d (By true (Sh 22 o)),iv (iO 22 o)]):=V9 22 o Aa
 have B:=Ty A J
 unfold Nx
 simp only
 rcases zJ k with(h|h|h|h|h|h|h|h|h)|⟨P,y,E,Q,R,O,W,Z,L⟩
 case inr=>
  have e:¬k=0∧¬(k=1∨k=2∨k=6)∧¬(k=3∨k=7)∧¬k=4∧¬k=5∧¬k=8:=by
   simp only[An] at P y E Q R O W Z L;omega
  rw[Ai e.1,Ai e.2.1,Ai e.2.2.1,Ai e.2.2.2.1,Ai e.2.2.2.2.1,Ai e.2.2.2.2.2]
  show Es _ _ _ (fun r=>r= .tup [.d (By false []),iv 8])
  refine acQ 118 Tryz.func336 rfl rfl fun _ _ _=> ?_
  (repeat'((conv=>whnf);refine He asP ?_));(all_goals(conv=>whnf))
  all_goals exact zE
 case inl.inl=>
  subst h
  rw[Aj rfl]
  cases j:H7 a
  ·rw[(Zp j).1,(Zp j).2] at n
   show Es _ _ _ (fun r=>r= .tup [.d (By false []),iv 8])
   refine acQ 118 Tryz.func336 rfl rfl fun _ _ _=> ?_
   (repeat'((conv=>whnf);first|refine Ej ?_|refine Al n rfl ?_|exact zE))
  ·rw[(Tq a).1 j] at n
   show Es _ _ _ (fun r=>r= .tup [.d (By false (Ei 0 6 false (Gs a)++Ei 2 0 true c)),iv 0])
   refine acQ 118 Tryz.func336 rfl rfl fun _ _ _=> ?_
   (repeat'((conv=>whnf);first|refine zY ?_|refine Al n rfl ?_|refine Al V Rh ?_|refine Al v Rh ?_|refine Al t Rh ?_|exact zE))
 case inl.inr.inr.inr.inr.inl=>
  subst h
  rw[Ai Ae,Ai Ae,Ai Ae,Aj rfl]
  cases j:nmV A
  ·rw[Ai (by rw[j];simp)] at B
   show Es _ _ _ (fun r=>r= .tup [.d (By false []),iv 8])
   refine acQ 118 Tryz.func336 rfl rfl fun _ _ _=> ?_
   (repeat'((conv=>whnf);first|refine zY ?_|refine Al B Rh ?_|exact zE))
  ·rw[Aj j] at B
   show Es _ _ _ (fun r=>r= .tup [.d (By false (nmE A)),iv 0])
   refine acQ 118 Tryz.func336 rfl rfl fun _ _ _=> ?_
   (repeat'((conv=>whnf);first|refine zY ?_|refine Al B Rh ?_|exact zE))
 case inl.inr.inr.inr.inr.inr.inl=>
  subst h
  rw[Ai Ae,Ai Ae,Ai Ae,Ai Ae,Aj rfl]
  unfold kF
  simp only
  generalize hz:zT f d=z
  have U:(f==0&&d==[])=z:=hz
  generalize b:(if z=true then [] else Ei 2 0 true (txE f d))=pre
  have q:(z||Ey f d)=true→pre.length≤13000000:=fun h=>by
   cases z
   ·rw[C9] at h
    have y:=Tz h x
    have E:=Ga 2 0 true (txE f d) Aa
    rw[←b,Ai Ab];omega
   ·rw[←b,Aj rfl];simp
  refine acQ 118 Tryz.func336 rfl rfl fun _ _ _=> ?_
  (repeat'((conv=>whnf);first|refine zY ?_));(all_goals(conv=>whnf))
  refine F2 [.s 8 1 5] (fun i:Nat=>i≤2∧(1≤i→(z||Ey f d)=true)∧(2≤i→Ey pk m=true)) (fun i=>2-i) (fun i=>⟨[(1,.ptr 1 0),(8,Hp 8 5 (kh pre (Ei 2 1 true (txE pk m)) i)),(15,iv 5),(75,.d (.sl false 2 2 [iD f,sD d,iD pk,sD m])),(76,iv 2),(77,iv i)],[(1,[iv 5,.d (sD a),.d (sD o),.d (By false c),.d (Kz A),iv f,.d (sD d),iv pk,.d (sD m)])],[(8,((kh pre (Ei 2 1 true (txE pk m)) i).length,1,5))]⟩) 0 ⟨Aa,Aa,Aa⟩ leQ ?_
  rintro i ⟨X,u,N⟩
  match i,X with
  |0,_=>
   cases z
   ·cases F:Ey f d
    ·have s:=bk x F
     rw[show((false||false)&&Ey pk m)=false by rfl,Ai Ab]
     (repeat'((conv=>whnf);first|refine zA ?_|refine Hf 0 ?_|refine Cs (Qj rfl rfl (ltN rfl) rfl rfl) ?_|refine Al s rfl ?_|exact zE))
    ·have s:=bj x F
     have y:=Tz F x
     have v:=Pq 0 (txE f d) Aa Aa
     have E:=Ga 2 0 true (txE f d) Aa
     rw[Ai Ab] at b
     rw[←b]
     (repeat'((conv=>whnf);first|refine zA ?_|refine Hf 0 ?_|refine Cs (Qj rfl rfl (ltN rfl) rfl rfl) ?_|refine Al s rfl ?_|refine Al v Rh ?_|(refine NApp.bytes ?_ (by show([]:List UInt8).length+_≤_;simp only[Ax];omega))|refine zI ?_));(all_goals(conv=>whnf))
     refine⟨1,⟨Aa,fun _=>rfl,Aa⟩,Aa,?_⟩
     exact leQ
   ·rw[Aj rfl] at b
    rw[←b]
    (repeat'((conv=>whnf);first|refine zD ?_|refine Hf 0 ?_|refine Cs (Qj rfl rfl (ltN rfl) rfl rfl) ?_|refine zI ?_));(all_goals(conv=>whnf))
    refine⟨1,⟨Aa,fun _=>rfl,Aa⟩,Aa,?_⟩
    exact leQ
  |1,_=>
   have u:=u Aa
   have hpl:=q u
   cases H:Ey pk m
   ·have s:=bk C H
    rw[Dt,Ai Ab]
    (repeat'((conv=>whnf);first|refine zY ?_|refine Hf 1 ?_|refine Al s rfl ?_|exact zE))
   ·have s:=bj C H
    have y:=Tz H C
    have v:=Pq 1 (txE pk m) Aa Aa
    have E:=Ga 2 1 true (txE pk m) Aa
    (repeat'((conv=>whnf);first|refine zY ?_|refine Hf 1 ?_|refine Al s rfl ?_|refine Al v Rh ?_|(refine NApp.bytes ?_ (by show pre.length+_≤_;omega))|refine zI ?_));(all_goals(conv=>whnf))
    refine⟨2,⟨Aa,fun _=>u,fun _=>rfl⟩,Aa,?_⟩
    exact leQ
  |2,_=>
   rw[u Aa,N Aa]
   (repeat'((conv=>whnf);refine Ee ?_));(all_goals(conv=>whnf))
   all_goals exact zE
 case inl.inr.inr.inr.inr.inr.inr.inr.inr=>
  subst h
  rw[Ai Ae,Ai Ae,Ai Ae,Ai Ae,Ai Ae,Aj rfl]
  cases j:H7 a
  ·rw[(Zp j).1,(Zp j).2] at n
   show Es _ _ _ (fun r=>r= .tup [.d (By false []),iv 8])
   refine acQ 118 Tryz.func336 rfl rfl fun _ _ _=> ?_
   (repeat'((conv=>whnf);first|refine zY ?_|refine Al n rfl ?_|exact zE))
  ·rw[(Tq a).1 j] at n
   show Es _ _ _ (fun r=>r= .tup [.d (By false (Gs a)),iv 0])
   refine acQ 118 Tryz.func336 rfl rfl fun _ _ _=> ?_
   (repeat'((conv=>whnf);first|refine zY ?_|refine Al n rfl ?_|exact zE))
 case inl.inr.inr.inr.inl=>
  subst h
  rw[Ai Ae,Ai Ae,Aj Ae]
  show Es _ _ _ (fun r=>r= .tup [.d (By false c),iv 0])
  refine acQ 118 Tryz.func336 rfl rfl fun _ _ _=> ?_
  (repeat'((conv=>whnf);first|refine zY ?_|exact zE))
 case inl.inr.inr.inr.inr.inr.inr.inr.inl=>
  subst h
  rw[Ai Ae,Ai Ae,Aj Ae]
  show Es _ _ _ (fun r=>r= .tup [.d (By false c),iv 0])
  refine acQ 118 Tryz.func336 rfl rfl fun _ _ _=> ?_
  (repeat'((conv=>whnf);first|refine zY ?_|exact zE))
 all_goals
  subst h
  rw[Ai Ae,Aj Ae]
  unfold Sh iO at w
  cases I:Ey 22 o
  ·rw[I] at w
   show Es _ _ _ (fun r=>r= .tup [.d (By false []),iv 8])
   refine acQ 118 Tryz.func336 rfl rfl fun _ _ _=> ?_
   (repeat'((conv=>whnf);first|refine zY ?_|refine Al w rfl ?_|exact zE))
  ·rw[I] at w
   show Es _ _ _ (fun r=>r= .tup [.d (By false (chS 22 o)),iv 0])
   refine acQ 118 Tryz.func336 rfl rfl fun _ _ _=> ?_
   (repeat'((conv=>whnf);first|refine zY ?_|refine Al w rfl ?_|exact zE))
end Go.Proofs.YtbedjionhmaafaaGreatDoor
