/- MJ: the texts Kid Kid2 Acc Mul Mul2 Mul3 Link MulR MulP MulQ MulS MulC MulT MulL MulI MulJ MulK MulW MulX, one behind the other. No condition but what each lemma says. -/
import Derived.Test.YtbedjionhmaafaaGreatDoorMG
import Derived.Test.YtbedjionhmaafaaGreatDoorMI
set_option linter.all false
set_option maxRecDepth 100000
set_option maxHeartbeats 16000000
namespace Go.Proofs.YtbedjionhmaafaaGreatDoor
open Go.RowKit
variable {α:Type} {i en c n d:Nat} {b p:List UInt8}
theorem Ga (c n:Nat) (k:Bool) (l:List UInt8) (a:l.length≤1000000000):(Ei c n k l).length≤l.length+6:=by
 have:=aW l.length Aa
 simp only[Ei,eM,D9,En];omega
def psS (b:List UInt8):List UInt8×Nat×Nat:=if(Em b).code≠0 then([],(Em b).code,(Em b).off) else if(Em b).x.isB 0 4 false=false then([],3,0) else((b.drop (Em b).x.body).take ((Em b).x.stop-(Em b).x.body),0,0)
theorem jV (b:List UInt8) (q:b.length≤100000000):aC 216 [.d (By false b)] (.tup [.d (By true (psS b).1),erA (psS b).2.1 (psS b).2.2]):=by
 have g:=Hj b Aa
 have o:=Fa b
 unfold psS
 by_cases h:(Em b).code=0
 ·obtain⟨u,s,v,w,t⟩:=o.1 h
  have f:=Fo (Em b).x 0 4 false
  have m:=Gq ((b.drop (Em b).x.body).take ((Em b).x.stop-(Em b).x.body)) (by rw[Ec,Eh];omega)
  rw[Ai Aa]
  generalize Em b=r at*
  cases l:r.x.isB 0 4 false
  ·rw[l] at f
   rw[Aj rfl]
   refine Fl 27 _ Eg mixed Tryz.func216 rfl Ac rfl rfl rfl rfl fun k fp0 j=> ?_
   (repeat'((conv=>whnf);first|refine Ej ?_|refine Al (g) (by first|rfl|(simp only[D8,AV.ren,AV.give,D.un,Ef,D7,D6,Ap,Am,Ak,Ea,Ed,G2,F8,Ex,Gv,Ha];first|done|rfl)) ?_|refine Al (f) Ah ?_|(refine H2 (fun e a=> ?_) (fun e a=> ?_)<;>try(exfalso;omega))));(all_goals(conv=>whnf))
   all_goals(refine E0 ?_;(repeat'(first|exact trivial|exact Er _|refine A1 ?_ ?_|exact rfl)))
  ·rw[l] at f
   rw[Ai Ab]
   refine Fl 27 _ Eg mixed Tryz.func216 rfl Ac rfl rfl rfl rfl fun k fp0 j=> ?_
   (repeat'((conv=>whnf);first|refine Ee ?_|refine Al (g) (by first|rfl|(simp only[D8,AV.ren,AV.give,D.un,Ef,D7,D6,Ap,Am,Ak,Ea,Ed,G2,F8,Ex,Gv,Ha];first|done|rfl)) ?_|refine Al (f) Ah ?_|refine NSl.slice (r.x.body) (r.x.stop) ?_|refine Al (m) (by first|rfl|(simp only[D8,AV.ren,AV.give,D.un,Ef,D7,D6,Ap,Am,Ak,Ea,Ed,G2,F8,Ex,Gv,Ha];first|done|rfl)) ?_|(refine H2 (fun e a=> ?_) (fun e a=> ?_)<;>try(exfalso;omega))));(all_goals(conv=>whnf))
   all_goals(refine E0 ?_;(repeat'(first|exact Er _|refine A1 ?_ ?_|exact rfl)))
 ·rw[Aj h]
  generalize Em b=r at*
  refine Fl 27 _ Eg mixed Tryz.func216 rfl Ac rfl rfl rfl rfl fun k fp0 j=> ?_
  (repeat'((conv=>whnf);first|refine Al (g) (by first|rfl|(simp only[D8,AV.ren,AV.give,D.un,Ef,D7,D6,Ap,Am,Ak,Ea,Ed,G2,F8,Ex,Gv,Ha];first|done|rfl)) ?_|refine zF ?_|(refine H2 (fun e a=> ?_) (fun e a=> ?_)<;>try(exfalso;omega))));(all_goals(conv=>whnf))
  all_goals(refine E0 ?_;(repeat'(first|exact trivial|exact Er _|refine A1 ?_ ?_|exact rfl)))
structure Kd where
 has:Bool
 id:List UInt8
 iss:List Gn
 ser:List UInt8
abbrev kdA (k:Kd):AV:= .agg [bv k.has,.d (By false k.id),.d (Uz k.iss),.d (By false k.ser)]
def T6:List UInt8→Bool
 |[]=>false
 |[_]=>true
 |x::y::_=> !(x==0&&decide (y.toNat<128))&& !(x==255&&decide (128≤y.toNat))
theorem kf (x:UInt8) (n:Nat) (a:n<256):((x.toNat:Int)==(n:Int))=(x==UInt8.ofNat n):=by
 rw[Bz,A9,A9,←B8,B6,Nat.mod_eq_of_lt Aa];omega
theorem Mb (l:List UInt8) (f:l.length≤100000000):aC 112 [.d (By false l)] (bv (T6 l)):=by
 match l,f with
 |[],_=>
  refine Fl 34 _ Eg mixed Tryz.func112 rfl Ac rfl rfl rfl rfl fun g fp0 e=> ?_
  (repeat'((conv=>whnf);refine Ej ?_));(all_goals(conv=>whnf))
  all_goals(refine E0 ?_;(repeat'(first|exact Er _|refine A1 ?_ ?_|exact rfl)))
 |[x],_=>
  refine Fl 34 _ Eg mixed Tryz.func112 rfl Ac rfl rfl rfl rfl fun g fp0 e=> ?_
  (repeat'((conv=>whnf);refine Ej ?_));(all_goals(conv=>whnf))
  all_goals(refine E0 ?_;(repeat'(first|exact Er _|refine A1 ?_ ?_|exact rfl)))
 |x::y::r,f=>
  have k:(x::y::r)[0]?=some x:=rfl
  have j:(x::y::r)[1]?=some y:=rfl
  have o:=uN y
  have u:((x.toNat:Int)==0)=(x==0):=kf x 0 Aa
  have q:((x.toNat:Int)==255)=(x==255):=kf x 255 Aa
  have v:=y.toNat_lt
  have t:(((y.toNat/128*128:Nat):Int)==0)=decide (y.toNat<128):=by
   rw[Bz,A9,A3];omega
  have A:(((y.toNat/128*128:Nat):Int) !=0)=decide (128≤y.toNat):=by
   rw[Bz,Av,A3];omega
  simp only[D9] at f
  have a:(((y.toNat/128*128:Nat):Int) !=0)= !(((y.toNat/128*128:Nat):Int)==0):=rfl
  have s:decide (128≤y.toNat)= !decide (y.toNat<128):=by rw[Bz,Ca,A3,Ar];omega
  rw[T6,s,←u,←q,←t]
  cases w:(((y.toNat/128*128:Nat):Int)==0)
  all_goals
   rw[w] at a
   by_cases z:x.toNat=0
   ·have h:((x.toNat:Int)==0)=true:=by rw[A9];omega
    have m:((x.toNat:Int)==255)=false:=by rw[An];omega
    rw[h,m]
    simp only[Bool.not_true,Bool.not_false] at a⊢
    refine Fl 34 _ Eg mixed Tryz.func112 rfl Ac rfl rfl rfl rfl fun g fp0 e=> ?_
    (repeat'((conv=>whnf);first|refine zY ?_|refine Gp (by assumption) ?_|refine He (by assumption) ?_|refine NIdx.bytes k ?_|refine NIdx.bytes j ?_|refine NInt.as (((y.toNat/128*128:Nat):Int)) (o) ?_));(all_goals(conv=>whnf))
    all_goals(refine E0 ?_;(repeat'(first|exact Er _|refine A1 ?_ ?_|exact rfl)))
   ·have h:((x.toNat:Int)==0)=false:=by rw[An];omega
    rw[h]
    cases m:((x.toNat:Int)==255)
    all_goals
     simp only[Bool.not_true,Bool.not_false] at a⊢
     refine Fl 34 _ Eg mixed Tryz.func112 rfl Ac rfl rfl rfl rfl fun g fp0 e=> ?_
     (repeat'((conv=>whnf);first|refine zY ?_|refine Gp (by assumption) ?_|refine He (by assumption) ?_|refine NIdx.bytes k ?_|refine NIdx.bytes j ?_|refine NInt.as (((y.toNat/128*128:Nat):Int)) (o) ?_));(all_goals(conv=>whnf))
     all_goals(refine E0 ?_;(repeat'(first|exact Er _|refine A1 ?_ ?_|exact rfl));(all_goals(conv=>whnf)))
     all_goals(rw[a];rfl)
def kdV (k:Kd) (gv:Bool):Bool:=if k.has=false∧k.id≠[] then false else if(k.iss=[])≠(k.ser=[]) then false else k.iss=[]||gv&&T6 k.ser
theorem oK (k:Kd) (m:Bool) (H:k.id.length≤100000000∧k.iss.length≤100000000∧k.ser.length≤100000000) (F:k.iss≠[]→aC 363 [.d (Uz k.iss)] (bv m)):aC 311 [kdA k] (bv (kdV k m)):=by
 obtain⟨f,id,g,a⟩:=k
 obtain⟨J,I,C⟩:=H
 simp only at J I C F
 have E:=Mb a C
 have B:∀{α:Type} (l:List α),l=[]→((l.length:Int)==0)=true:=fun l h=>by subst h;rfl
 have A:∀{α:Type} (l:List α),l≠[]→((l.length:Int)==0)=false:=fun l h=>by
  cases l with
  |nil=>exact Bg rfl h
  |cons x r=>rw[An,D9];omega
 by_cases q:g=[]
 ·have y:=B g q
  by_cases o:a=[]
  ·have s:=B a o
   have z:(!(((g.length:Int)==0)==((a.length:Int)==0)))=false:=by rw[y,s];rfl
   by_cases j:id=[]
   ·have v:decide ((id.length:Int)>0)=false:=by subst j;rfl
    have e:kdV ⟨f,id,g,a⟩ m=true:=by unfold kdV;simp[q,o,j]
    rw[e]
    cases f
    all_goals
     refine Fl 37 _ Eg mixed Tryz.func311 rfl Ac rfl rfl rfl rfl fun t fp0 u=> ?_
     (repeat'((conv=>whnf);first|refine zY ?_|refine Gp (by assumption) ?_|refine He (by assumption) ?_));(all_goals(conv=>whnf))
     all_goals(refine E0 ?_;(repeat'(first|exact Er _|refine A1 ?_ ?_|exact rfl)))
   ·have v:decide ((id.length:Int)>0)=true:=Aq (by cases id with|nil=>exact Bg rfl j|cons x r=>simp only[D9];omega)
    have e:kdV ⟨f,id,g,a⟩ m=f:=by unfold kdV;cases f<;>simp[q,o,j]
    rw[e]
    cases f
    all_goals
     refine Fl 37 _ Eg mixed Tryz.func311 rfl Ac rfl rfl rfl rfl fun t fp0 u=> ?_
     (repeat'((conv=>whnf);first|refine zY ?_|refine Gp (by assumption) ?_|refine He (by assumption) ?_));(all_goals(conv=>whnf))
     all_goals(refine E0 ?_;(repeat'(first|exact Er _|refine A1 ?_ ?_|exact rfl)))
  ·have s:=A a o
   have z:(!(((g.length:Int)==0)==((a.length:Int)==0)))=true:=by rw[y,s];rfl
   have e:kdV ⟨f,id,g,a⟩ m=false:=by unfold kdV;simp[q,o]
   rw[e]
   by_cases j:id=[]
   ·have v:decide ((id.length:Int)>0)=false:=by subst j;rfl
    cases f
    all_goals
     refine Fl 37 _ Eg mixed Tryz.func311 rfl Ac rfl rfl rfl rfl fun t fp0 u=> ?_
     (repeat'((conv=>whnf);first|refine zY ?_|refine Gp (by assumption) ?_|refine He (by assumption) ?_));(all_goals(conv=>whnf))
     all_goals(refine E0 ?_;(repeat'(first|exact Er _|refine A1 ?_ ?_|exact rfl)))
   ·have v:decide ((id.length:Int)>0)=true:=Aq (by cases id with|nil=>exact Bg rfl j|cons x r=>simp only[D9];omega)
    cases f
    all_goals
     refine Fl 37 _ Eg mixed Tryz.func311 rfl Ac rfl rfl rfl rfl fun t fp0 u=> ?_
     (repeat'((conv=>whnf);first|refine zY ?_|refine Gp (by assumption) ?_));(all_goals(conv=>whnf))
     all_goals(refine E0 ?_;(repeat'(first|exact Er _|refine A1 ?_ ?_|exact rfl)))
 ·have y:=A g q
  have w:=F q
  by_cases o:a=[]
  ·have s:=B a o
   have z:(!(((g.length:Int)==0)==((a.length:Int)==0)))=true:=by rw[y,s];rfl
   have e:kdV ⟨f,id,g,a⟩ m=false:=by unfold kdV;simp[q,o]
   rw[e]
   by_cases j:id=[]
   ·have v:decide ((id.length:Int)>0)=false:=by subst j;rfl
    cases f
    all_goals
     refine Fl 37 _ Eg mixed Tryz.func311 rfl Ac rfl rfl rfl rfl fun t fp0 u=> ?_
     (repeat'((conv=>whnf);first|refine zY ?_|refine Gp (by assumption) ?_|refine He (by assumption) ?_));(all_goals(conv=>whnf))
     all_goals(refine E0 ?_;(repeat'(first|exact Er _|refine A1 ?_ ?_|exact rfl)))
   ·have v:decide ((id.length:Int)>0)=true:=Aq (by cases id with|nil=>exact Bg rfl j|cons x r=>simp only[D9];omega)
    cases f
    all_goals
     refine Fl 37 _ Eg mixed Tryz.func311 rfl Ac rfl rfl rfl rfl fun t fp0 u=> ?_
     (repeat'((conv=>whnf);first|refine zY ?_|refine Gp (by assumption) ?_));(all_goals(conv=>whnf))
     all_goals(refine E0 ?_;(repeat'(first|exact Er _|refine A1 ?_ ?_|exact rfl)))
  ·have s:=A a o
   have z:(!(((g.length:Int)==0)==((a.length:Int)==0)))=false:=by rw[y,s];rfl
   by_cases j:id=[]
   ·have v:decide ((id.length:Int)>0)=false:=by subst j;rfl
    have e:kdV ⟨f,id,g,a⟩ m=(m&&T6 a):=by unfold kdV;simp[q,o,j]
    rw[e]
    cases f<;>cases m
    all_goals
     refine Fl 37 _ Eg mixed Tryz.func311 rfl Ac rfl rfl rfl rfl fun t fp0 u=> ?_
     (repeat'((conv=>whnf);first|refine zY ?_|refine He (by assumption) ?_|refine Al (E) (by first|rfl|(simp only[D8,AV.ren,AV.give,D.un,Ef,D7,D6,Ap,Am,Ak,Ea,Ed,G2,F8,Ex,Gv,Ha];first|done|rfl)) ?_|refine Al (w) (by first|rfl|(simp only[D8,AV.ren,AV.give,D.un,Ef,D7,D6,Ap,Am,Ak,Ea,Ed,G2,F8,Ex,Gv,Ha];first|done|rfl)) ?_));(all_goals(conv=>whnf))
     all_goals(refine E0 ?_;(repeat'(first|exact Er _|refine A1 ?_ ?_|exact rfl)))
   ·have v:decide ((id.length:Int)>0)=true:=Aq (by cases id with|nil=>exact Bg rfl j|cons x r=>simp only[D9];omega)
    have e:kdV ⟨f,id,g,a⟩ m=(f&&(m&&T6 a)):=by unfold kdV;cases f<;>simp[q,o,j]
    rw[e]
    cases f<;>cases m
    all_goals
     refine Fl 37 _ Eg mixed Tryz.func311 rfl Ac rfl rfl rfl rfl fun t fp0 u=> ?_
     (repeat'((conv=>whnf);first|refine zY ?_|refine Gp (by assumption) ?_|refine He (by assumption) ?_|refine Al (E) (by first|rfl|(simp only[D8,AV.ren,AV.give,D.un,Ef,D7,D6,Ap,Am,Ak,Ea,Ed,G2,F8,Ex,Gv,Ha];first|done|rfl)) ?_|refine Al (w) (by first|rfl|(simp only[D8,AV.ren,AV.give,D.un,Ef,D7,D6,Ap,Am,Ak,Ea,Ed,G2,F8,Ex,Gv,Ha];first|done|rfl)) ?_));(all_goals(conv=>whnf))
     all_goals(refine E0 ?_;(repeat'(first|exact Er _|refine A1 ?_ ?_|exact rfl)))
def kdP (k:Kd) (body:List UInt8):List (List UInt8):=(if k.has then [Ei 2 0 false k.id] else [])++(if k.iss=[] then [] else [Ei 2 1 true body,Ei 2 2 false k.ser])
theorem Sz {P:Program} {C:Cx} {o:Oper} {σ:AS} {t:Nat} {k:IntKind} {m n:Int} {x y:Operand} {ats:Array TypeId} (v:Int) (hv:(if m<n then n else m)=v) (ho:o.op= .call {callee:= .builtin .max,args:=#[x,y],argTypes:=ats}) (hd:o.dst=some t) (ht:t<C.N) (hx:σ.eval x=some (.d (.v (.int k m)))) (hy:σ.eval y=some (.d (.v (.int k n)))):Fp P C o σ (σ.put t (.d (.v (.int k v)))):=
 E1 hd ht fun a w bm gt fp hg=>by
  have h1:=(hg.eval hx).val
  have h2:=(hg.eval hy).val
  refine⟨_,?_,.d (.v _)⟩
  simp only[execOp,ho,resolve,invoke,builtin,Au,Bs,A6,List.map_toArray,Bc,List.map_nil,h1,h2]
  subst hv
  simp[go_sem]
  try omega
theorem J1 (c n:Nat) (k:Bool) (p:List UInt8) (a:c≤3) (e:n≤30) (f:p.length≤900000000):aC 33 [iv c,bv k,iv n,.d (I9 [p])] (.tup [Hp 0 5 (Ei c n k p),iv 0]):=by
 have h:=Ov c n k [p] a e (by simpa using f) Ab
 rwa[show [p].flatten=p by simp] at h
structure Acc where
 m:List UInt8
 g:Gn
def WC (a:Acc):List D:=sD a.m::gnC a.g
def NH (l:List Acc):D:=J5 false 10 WC l
theorem oL (a:Acc):Ef (WC a)=WC a:=by
 show D.un (sD a.m)::Ef (gnC a.g)=_
 rw[Gv];rfl
theorem NI (l:List Acc):(NH l).un=NH l:=K3 oL false 10 l
def Gt (b:List UInt8):Bool:=(Jk b).code==0
theorem gM (b:List UInt8):(∃s,Jk b=⟨[s],0,0⟩)∨(∃c o,c≠0∧Jk b=⟨[],c,o⟩):=by
 have a:=Ls b 16 b.length Aa 0 Aa
 dsimp only at a
 unfold Jk
 generalize Gh b 16 0 b.length=r at a
 by_cases h:r.code=0
 ·obtain⟨s,rfl,j,k⟩:=a.1 h
  by_cases e:s.stop<b.length
  ·rw[Nj e];exact .inr ⟨_,_,Ab,rfl⟩
  ·rw[Qm e];exact .inl ⟨s,rfl⟩
 ·obtain⟨l,c,o⟩:=r
  have g:l=[]:=(a.2 h).2
  subst g
  have f:¬c=0:=h
  rw[Oy];exact .inr ⟨c,o,f,by simp[SR.bad]⟩
theorem Ra {p:Prop} (h:p:=by first|rfl|(simp only[D8,AV.ren,AV.give,D.un,Ef,D7,D6,Ap,Am,Ak,Ea,Ed,Gz,Fy];first|done|rfl)):p:=h
theorem NJ (b:List UInt8) (r:b.length≤1000000000):aC 396 [.d (By false b)] (bv (Gt b)):=by
 have g:=gG b r
 unfold Gt
 rcases gM b with⟨s,h⟩|⟨c,o,f,h⟩
 ·rw[h] at g⊢
  obtain⟨a,q,c,n,k,j,m⟩:=s
  have e:aC 68 [.d (By false b)] (.tup [.agg ((oH true (.mk a q c n k j m)).map AV.d),erA 0 0]):=g
  refine acQ 13 Tryz.func396 rfl rfl fun _ _ _=> ?_
  (repeat'((conv=>whnf);refine Al e Ra ?_));(all_goals(conv=>whnf))
  all_goals exact zE
 ·rw[h] at g⊢
  have e:aC 68 [.d (By false b)] (.tup [.agg [iv 0,iv 0,bv false,.d (.v (.slice none 0 0)),.d (.v (.slice none 0 0))],erA c o]):=by
   cases c with
   |zero=>exact Bg rfl f
   |succ c=>exact g
  have l:((c:Int)==0)=false:=by rw[An];simpa using f
  have gd:(c==0)=false:=by rw[An];exact f
  refine acQ 13 Tryz.func396 rfl rfl fun _ _ _=> ?_
  (repeat'((conv=>whnf);refine Al e Ra ?_));(all_goals(conv=>whnf))
  all_goals(refine E0 ?_;(repeat'(first|refine A1 ?_ ?_|exact rfl));(all_goals(conv=>whnf)))
  all_goals exact l.trans gd.symm
theorem FM (b:List UInt8) (e:b.length≤1000000000):aC 395 [.d (By false b)] (bv (!Gt b)):=by
 have a:=NJ b e
 refine acQ 6 Tryz.func395 rfl rfl fun _ _ _=> ?_
 (repeat'((conv=>whnf);refine Al a Ra ?_));(all_goals(conv=>whnf))
 all_goals exact zE
theorem Og (f:α→Bool) {l:List α} {x:α} (h:l[i]?=some x) (j:f x=true) (e:(l.take i).all f=true):(l.take (i+1)).all f=true:=by
 obtain⟨a,g⟩:=Ew.1 h
 rw[B7 a,g,List.all_append,e];simp[j]
def uU (ps:List (List UInt8)):Int:=if ps.all Gt then-1 else((ps.takeWhile Gt).length:Int)
theorem yZ {α:Type} (f:α→Bool):∀{l:List α} {i:Nat} {x:α},(l.take i).all f=true→l[i]?=some x→f x=false→(l.takeWhile f).length=i∧l.all f=false
 |[],i,x,_,h,_=>by simp at h
 |y::r,0,x,_,h,hx=>by
  obtain rfl:y=x:=by simpa using h
  simp[hx]
 |y::r,i+1,x,ha,h,hx=>by
  rw[List.take_succ_cons,List.all_cons,Et] at ha
  obtain⟨e,a⟩:=yZ f ha.2 (by simpa using h) hx
  rw[List.takeWhile_cons,ha.1,Aj rfl,D9,e,List.all_cons,a]
  simp
theorem NK (ps:List (List UInt8)) (o:ps.length≤1000000000) (k:∀p∈ps,p.length≤1000000000):aC 414 [.d (I9 ps),.d (.fn 395 [])] (iv (uU ps)):=by
 refine acQ 19 Tryz.func414 rfl rfl fun _ _ _=> ?_
 (all_goals(conv=>whnf))
 refine Fh (fun i:Nat=>i≤ps.length∧(ps.take i).all Gt=true) (fun i=>ps.length-i) (fun i=>⟨[(0,.d (I9 ps)),(1,.d (.fn 395 [])),(7,iv ps.length),(8,iv i)],[],[]⟩) 0 ⟨Aa,rfl⟩ leQ ?_
 rintro i ⟨q,e⟩
 by_cases h:i<ps.length
 ·have m:decide ((i:Int)<ps.length)=true:=Aq Aa
  obtain⟨b,a⟩:∃p,ps[i]?=some p:=⟨_,Ev h⟩
  have f:=FM b (k b (F9 a))
  cases g:Gt b
  ·rw[g] at f
   obtain⟨j,l⟩:=yZ Gt e a g
   rw[show uU ps=i by unfold uU;rw[l,j];rfl]
   (repeat'((conv=>whnf);first|refine zD ?_|refine NIdx.tab (fun _=>rfl) a ?_|refine Al f Ra ?_|exact zE))
  ·rw[g] at f
   (repeat'((conv=>whnf);first|refine zD ?_|refine NIdx.tab (fun _=>rfl) a ?_|refine Al f Ra ?_|refine zI ?_));(all_goals(conv=>whnf))
   refine⟨i+1,⟨Aa,Og Gt a g e⟩,Aa,?_⟩
   exact leQ
 ·have m:decide ((i:Int)<ps.length)=false:=Ao Aa
  obtain rfl:i=ps.length:=Aa
  rw[Bv] at e
  rw[show uU ps= -1 by unfold uU;rw[e];rfl]
  (repeat'((conv=>whnf);refine He asP ?_));(all_goals(conv=>whnf))
  all_goals exact zE
theorem WD (ps:List (List UInt8)):decide (uU ps≥0)= !ps.all Gt:=by
 unfold uU
 cases ps.all Gt
 ·rw[Ai Ab];exact Aq Aa
 ·rw[Aj rfl];rfl
theorem FN (ps:List (List UInt8)) (a:ps.length≤1000000000) (f:∀p∈ps,p.length≤1000000000):aC 394 [.d (I9 ps),.d (.fn 395 [])] (bv (!ps.all Gt)):=by
 have e:=NK ps a f
 rw[←WD]
 refine acQ 9 Tryz.func394 rfl rfl fun _ _ _=> ?_
 (repeat'((conv=>whnf);refine Al e Ra ?_));(all_goals(conv=>whnf))
 all_goals exact zE
def zC (ps:List (List UInt8)):Bool:=decide (ps.length>0)&&Mw ps&&ps.all Gt
theorem NL (ps:List (List UInt8)) (f:ps.length≤1000000000) (h:∀p∈ps,p.length≤1000000000):aC 349 [.d (I9 ps)] (bv (zC ps)):=by
 have a:=Su ps f h
 have g:=FN ps f h
 unfold zC
 by_cases j:ps.length>0
 ·have k:decide ((ps.length:Int)>0)=true:=Aq Aa
  rw[Aq j]
  cases e:Mw ps
  ·rw[e] at a
   refine acQ 15 Tryz.func349 rfl rfl fun _ _ _=> ?_
   (repeat'((conv=>whnf);first|refine zD ?_|refine Al a Ra ?_|exact zE))
  ·rw[e] at a
   cases l:ps.all Gt
   all_goals
    rw[l] at g
    refine acQ 15 Tryz.func349 rfl rfl fun _ _ _=> ?_
    (repeat'((conv=>whnf);first|refine zD ?_|refine Al a Ra ?_|refine Al g Ra ?_|exact zE))
 ·have k:decide ((ps.length:Int)>0)=false:=Ao Aa
  rw[Ao j]
  refine acQ 15 Tryz.func349 rfl rfl fun _ _ _=> ?_
  (repeat'((conv=>whnf);first|refine zA ?_|exact zE))
def Iw (p:List UInt8):List D:=[By true p]
theorem E8 (l:List (List UInt8)):Ef (l.flatMap Iw)=l.flatMap Pp:=by
 induction l with
 |nil=>rfl
 |cons p r a=>
  show D.un (By true p)::Ef (r.flatMap Iw)=_
  rw[D7,a];rfl
structure Mu where
 oid:List UInt8
 vs:List (List UInt8)
def muC (m:Mu):List D:=[.v (.string ⟨⟨m.oid⟩⟩),I9 m.vs]
def kg (l:List Mu):D:=J5 false 2 muC l
theorem H9 (m:Mu):Ef (muC m)=muC m:=by simp only[muC,Ef,Ea,D.un]
theorem Iu (l:List Mu):(kg l).un=kg l:=K3 H9 false 2 l
theorem Lb {p:List UInt8}:∀{l:List (List UInt8)},p∈l→p.length≤l.flatten.length
 |[],h=>by cases h
 |q::r,h=>by
  rw[Cq,En]
  rcases Bj.1 h with rfl|h
  ·omega
  ·have:=Lb h;omega
theorem NM:aC 274 [] (.agg [.d (.fn 348 []),.d (.fn 350 [])]):=by
 refine acQ 2 Tryz.func274 rfl rfl fun _ _ _=> ?_
 (all_goals(conv=>whnf))
 all_goals exact zE
abbrev mpA:AV:= .agg [.d (.fn 348 []),.d (.fn 350 [])]
structure Mu.sm (m:Mu):Prop where
 o:m.oid.length≤70000
 n:m.vs.length≤1000000
 v:m.vs.flatten.length≤70000
theorem NN:aC 271 [] (.agg [.d (.fn 345 []),.d (.fn 346 [])]):=by
 refine Fl 2 _ Eg mixed Tryz.func271 rfl Ac rfl rfl rfl rfl fun a fp0 e=> ?_
 (all_goals(conv=>whnf))
 all_goals(refine E0 ?_;(repeat'(first|exact Er _|refine A1 ?_ ?_|exact rfl)))
abbrev adA:AV:= .agg [.d (.fn 345 []),.d (.fn 346 [])]
theorem uV (x:S) (r:SR):(bO x r).code=r.code:=by
 grind [Wl,Tw]
theorem uW (sz:Nat) (x:Tr) (r:TR):(gH sz x r).code=r.code:=by
 by_cases h:r.code=0
 ·rw[bQ h,h]
 ·rw[Xx h];rfl
def Agr (rd:Nat→SR) (rt:List UInt8→TR) (b:List UInt8) (en:Nat):Prop:=∀p,p≤en→(rd p).code=(rt ((b.drop p).take (en-p))).code∧∀s t sz,rd p=⟨[s],0,0⟩→rt ((b.drop p).take (en-p))=⟨[t],sz,0,0⟩→s.stop=p+sz
theorem FO {e:Nat→SR} {h:List UInt8→TR} (r:en≤b.length) (y:Rds e en) (x:RdT h) (v:Agr e h b en):∀(f p:Nat),p≤en→(Mj e en f p).code=(kT h f ((b.drop p).take (en-p))).code:=by
 intro f
 induction f with
 |zero=>intro p _;rfl
 |succ f u=>
  intro p l
  have A:((b.drop p).take (en-p)).length=en-p:=by rw[Ec,Eh];omega
  by_cases g:p<en
  ·have q:((b.drop p).take (en-p)).length≠0:=by omega
   obtain⟨j,w⟩:=v p l
   by_cases a:(e p).code=0
   ·obtain⟨s,o,C,z⟩:=(y p l).1 a
    obtain⟨t,sz,m,E,B⟩:=(x _).1 (j▸a)
    have k:=w s t sz o m
    rw[Qk g o,jT q m,uV,uW,k,u (p+sz) Aa,C2,C3,show en-p-sz=en-(p+sz) by omega]
   ·rw[Sx g a,yU q (j▸a)];exact j
  ·rw[Mx g,bR Aa]
theorem FP (b:List UInt8):∀(d en:Nat),en≤b.length→Agr (fun p=>Gh b d p en) (rT d) b en:=by
 intro d
 induction d with
 |zero=>intro en _ p _;exact⟨rfl,fun s t sz h=>by simp[Gh,SR.bad] at h⟩
 |succ d r=>
  intro en q p v
  have o:((b.drop p).take (en-p)).length=en-p:=by rw[Ec,Eh];omega
  have l:=Kj ((b.drop p).take (en-p))
  rw[o] at l
  simp only[Gh,rT]
  generalize A:rhS ((b.drop p).take (en-p))=h at l⊢
  obtain⟨z,E,B,w,x,y,C⟩:=l
  unfold Ql rTH
  by_cases f:h.code≠0
  ·rw[Aj f,Aj f]
   exact⟨rfl,fun s t sz a=>by simp[SR.bad] at a⟩
  rw[Ai f,Ai f,o]
  by_cases g:en-p<h.size+h.len
  ·rw[Aj g,Aj g]
   exact⟨rfl,fun s t sz a=>by simp[SR.bad] at a⟩
  rw[Ai g,Ai g]
  by_cases k3:h.k=false
  ·rw[Aj k3,Aj k3]
   refine⟨rfl,fun s t sz j m=> ?_⟩
   simp only[SR.mk.injEq,TR.mk.injEq,Cn,and_true] at j m
   grind [S.stop]
  rw[Ai k3,Ai k3]
  have u:(((b.drop p).take (en-p)).drop h.size).take h.len=(b.drop (p+h.size)).take (p+h.size+h.len-(p+h.size)):=by
   rw[C2,C3,List.take_take]
   congr 1;omega
  have k:(Ij (Gh b d) (p+h.size) (p+h.size+h.len)).code=(Jl (rT d) ((((b.drop p).take (en-p)).drop h.size).take h.len)).code:=by
   rw[u,Jl,show((b.drop (p+h.size)).take (p+h.size+h.len-(p+h.size))).length=p+h.size+h.len-(p+h.size) by grind]
   exact FO Aa (Ls b d _ Aa) (yV d) (r (p+h.size+h.len) Aa) _ (p+h.size) Aa
  by_cases e:(Ij (Gh b d) (p+h.size) (p+h.size+h.len)).code≠0
  ·rw[Aj e,Aj (k▸e)]
   exact⟨k,fun s t sz a=>by simp[SR.bad] at a⟩
  ·rw[Ai e,Ai (k▸e)]
   refine⟨rfl,fun s t sz j m=> ?_⟩
   simp only[SR.mk.injEq,TR.mk.injEq,Cn,and_true] at j m
   grind [S.stop]
theorem uX (b:List UInt8):(Jk b).code=(Na 16 b).code:=by
 have v:=FP b 16 b.length (At _) 0 (Nat.zero_le _)
 rw[List.drop_zero,Nat.sub_zero,Bv] at v
 obtain⟨g,m⟩:=v
 have e:=Ls b 16 b.length Aa 0 Aa
 dsimp only at e g m
 have q:=yV 16 b
 unfold Jk Na
 by_cases h:(Gh b 16 0 b.length).code=0
 ·obtain⟨s,u,C,A⟩:=e.1 h
  obtain⟨t,sz,j,E,B⟩:=q.1 (g▸h)
  have x:=m s t sz u j
  rw[u,j]
  by_cases w:s.stop<b.length
  ·rw[Nj w,Yv Aa];rfl
  grind [Qm,gK]
 ·have k:=q.2 (g▸h)
  have y:Gh b 16 0 b.length=⟨[],(Gh b 16 0 b.length).code,(Gh b 16 0 b.length).off⟩:=by
   have:=(e.2 h).2
   generalize Gh b 16 0 b.length=r at this⊢
   obtain⟨l,c,o⟩:=r
   simp only at this;rw[this]
  have F:rT 16 b=⟨[],0,(rT 16 b).code,(rT 16 b).off⟩:=by
   have f:=k.2.1;have a:=k.2.2.1
   generalize rT 16 b=r at f a⊢
   obtain⟨l,z,c,o⟩:=r
   simp only at f a;rw[f,a]
  grind [Oy,bT,SR.bad,TR.bad]
theorem WE (b:List UInt8):Gt b=NE b:=by unfold Gt NE;rw[uX]
def bU (ps:List (List UInt8)):D:=J5 true 1 Iw ps
theorem Gx (ps:List (List UInt8)):(bU ps).un=I9 ps:=by
 show D.sl false ps.length 1 (Ef (ps.flatMap Iw))=_
 rw[E8];rfl
def spl (b:List UInt8) (n:Nat):List (List UInt8):=(Dn b 0 n).l.map (elO b)
theorem FQ:∀(f p:Nat),(Ii b en f p).code≠0→(Ii b en f p).l=[]:=by
 intro f
 induction f with
 |zero=>intro p h;rfl
 |succ f j=>
  intro p h
  rw[Ii] at h⊢
  by_cases g:p<en
  ·rw[Aj g] at h⊢
   by_cases e:(nxS b p en).code≠0
   ·rw[Aj e]
   ·rw[Ai e] at h⊢
    by_cases a:(Ii b en f (nxS b p en).x.stop).code≠0
    ·rw[Aj a];exact j _ a
    ·rw[Ai a] at h;exact Bg rfl h
  ·rw[Ai g]
theorem Ez {x:El} (h:x∈(Dn b c n).l):x.at'+2≤x.body∧x.body≤x.stop∧x.stop≤b.length:=by
 have a:=Fa b
 unfold Dn at h
 split at h
 ·cases h
 ·split at h
  ·cases h
  ·have:=V8 a.2.2.2.2.2.1 h
   omega
theorem F4 (b:List UInt8) (c n:Nat):(Dn b c n).l.length≤b.length:=by
 have a:=Fa b
 unfold Dn
 split
 ·exact Nat.zero_le _
 ·split
  ·exact Nat.zero_le _
  ·have:=Tn (b:=b) a.2.2.2.2.2.1 ((Em b).x.stop-(Em b).x.body) (Em b).x.body
   exact Bi this Aa
theorem uY (h:(Dn b c n).code≠0):(Dn b c n).l=[]:=by
 unfold Dn at h⊢
 split
 ·rfl
 ·split
  ·rfl
  ·rename_i a e
   rw[Ai a,Ai e] at h
   exact FQ _ _ h
theorem Wo {e:Type} (f:α→e) {l:List α} {x:α} (h:l[i]?=some x):(l.take (i+1)).map f=(l.take i).map f++[f x]:=by
 obtain⟨a,g⟩:=Ew.1 h
 rw[B7 a,g,Cp];rfl
theorem Zm {p:Prop} (h:p:=by first|rfl|(simp only[D8,AV.ren,AV.give,D.un,Ef,D7,D6,Ap,Am,Ak,Ea,Ed,Iu,H9,Gz,Fy,E8,Gx,Ep,Eo];first|done|rfl)):p:=h
theorem NO (id b:List UInt8) (A:b.length≤30000):aC 348 [sx id,.d (By false b)] (.tup [.agg [sx id,.d (bU (spl b 17))],bv (decide ((Dn b 0 17).code=0)&&zC (spl b 17))]):=by
 have a:=Fc b 0 17 Aa
 have k:=NL (spl b 17) (by have:=F4 b 0 17;unfold spl;rw[Ba];omega) (fun p q=>by
  unfold spl at q
  obtain⟨x,-,rfl⟩:=Cl.1 q
  unfold elO;rw[Ec,Eh];omega)
 by_cases f:(Dn b 0 17).code=0
 ·have e:=fun x=>Ez (b:=b) (c:=0) (n:=17) (x:=x)
  have h:=F4 b 0 17
  rw[Aq f,Cd]
  rw[lrA,Ai Aa] at a
  unfold spl at k⊢
  generalize (Dn b 0 17).l=l at a k e h⊢
  refine acQ 46 Tryz.func348 rfl rfl fun _ _ _=> ?_
  (repeat'((conv=>whnf);refine Al a Zm ?_));(all_goals(conv=>whnf))
  refine F2 [.b 6 1 1000 1 22] (fun i:Nat=>i≤l.length) (fun i=>l.length-i) (fun i=>⟨[(1,.d (By false b)),(4,.ptr 4 0),(6,.ptr 6 0),(8,.ptr 8 0),(18,.d (Gw l)),(19,iv l.length),(20,iv i)],[(4,[sx [],Ff]),(6,[sx id,Fy 1000 1 22 Iw ((l.take i).map (elO b))]),(8,[iv 0,iv 0])],[(1000,(((l.take i).map (elO b)).length,1,22))]⟩) 0 Aa leQ ?_
  rintro i w
  have r:((l.take i).map (elO b)).length≤1000000:=by rw[Ba,Ec];omega
  by_cases g:i<l.length
  ·have u:decide ((i:Int)<l.length)=true:=Aq Aa
   obtain⟨x,j⟩:∃p,l[i]?=some p:=⟨_,Ev g⟩
   obtain⟨y,z,k3⟩:=e x (F9 j)
   have s:=Gq (elO b x) (by unfold elO;rw[Ec,Eh];omega)
   have m:=Wo (elO b) j
   (repeat'((conv=>whnf);first|refine Gp asP ?_|refine NIdx.tab (fun _=>rfl) j ?_|refine NSl.slice (x.at') (x.stop) ?_|refine Al s Zm ?_|refine E4 Iw (elO b x) ?_|refine zI ?_|refine zF ?_));(all_goals(conv=>whnf))
   refine⟨i+1,Aa,Aa,?_⟩
   rw[m]
   exact leQ
  ·have u:decide ((i:Int)<l.length)=false:=Ao Aa
   obtain rfl:i=l.length:=Aa
   rw[Bv]
   (repeat'((conv=>whnf);first|refine zA ?_|refine Al k Zm ?_|refine zF ?_|exact zE))
 ·have v:=uY f
  rw[Ao f,C4]
  have m:spl b 17=[]:=by unfold spl;rw[v];rfl
  rw[m]
  rw[lrA,Aj f] at a
  have t:(((Dn b 0 17).code:Int)==0)=false:=by rw[An];omega
  generalize (Dn b 0 17).code=c at a t
  generalize (Dn b 0 17).off=o at a
  refine acQ 46 Tryz.func348 rfl rfl fun _ _ _=> ?_
  (repeat'((conv=>whnf);refine Al a Zm ?_));(all_goals(conv=>whnf))
  refine Hv 1 ?_
  (repeat'((conv=>whnf);first|refine zA ?_|refine zF ?_|exact zE))
theorem gN (a:en≤b.length):∀(f p:Nat),p≤en→(Ii b en f p).off≤b.length:=by
 intro f
 induction f with
 |zero=>intro p _;exact Nat.zero_le _
 |succ f h=>
  intro p g
  rw[Ii]
  have e:=Lo b p en g a
  split
  ·split
   ·show(nxS b p en).off≤_
    have:=e.2.2.1
    omega
   ·rename_i j
    have:=e.1 Aa
    split
    ·exact h _ Aa
    ·exact Nat.zero_le _
  ·exact Nat.zero_le _
theorem Hg (b:List UInt8) (c n:Nat):(Dn b c n).off≤b.length:=by
 have a:=Fa b
 unfold Dn
 split
 ·exact a.2.2.1
 ·split
  ·exact Nat.zero_le _
  ·exact gN a.2.2.2.2.2.1 _ _ a.2.2.2.2.2.2
def bod (b:List UInt8) (x:El):List UInt8:=(b.drop x.body).take (x.stop-x.body)
def oM (b:List UInt8):LR→Option (List UInt8×List UInt8)
 |⟨[x,y],0,_⟩=>if x.isB 0 6 false=true∧odC (bod b x)=0 then some (odT (bod b x),elO b y) else none
 |_=>none
def Qp (b:List UInt8):Option (List UInt8×List UInt8):=oM b (Dn b 0 16)
def okM (s:List UInt8):Bool:=decide ((Dn s 0 17).code=0)&&zC (spl s 17)
def WF:Option (List UInt8×List UInt8)→AV
 |none=> .tup [.agg [sx [],Ff],bv false]
 |some (id,s)=> .tup [.agg [sx id,.d (bU (spl s 17))],bv (okM s)]
theorem Rb {r:LR} (h:r.code≠0∨r.l.length≠2):oM b r=none:=by
 obtain⟨l,c,o⟩:=r
 match l,c with
 |[x,y],0=>rcases h with h|h<;>simp at h
 |[x,y],c+1=>rfl
 |[],0=>rfl
 |[],c+1=>rfl
 |[x],0=>rfl
 |[x],c+1=>rfl
 |x::y::z::r,0=>rfl
 |x::y::z::r,c+1=>rfl
theorem NP (b:List UInt8) (K:b.length≤30000):aC 351 [mpA,.d (By false b)] (WF (Qp b)):=by
 have a:=Fc b 0 16 Aa
 have e:=fun x=>Ez (b:=b) (c:=0) (n:=16) (x:=x)
 have q:=F4 b 0 16
 unfold Qp
 generalize Dn b 0 16=r at a e q⊢
 by_cases j:r.code≠0
 ·rw[Rb (.inl j)]
  rw[lrA,Aj j] at a
  have A:((r.code:Int) !=0)=true:=by rw[Av];omega
  generalize r.code=c at a A
  generalize r.off=o at a
  refine Fl 65 _ Eg mixed Tryz.func351 rfl Ac rfl rfl rfl rfl fun k fp0 m=> ?_
  (repeat'((conv=>whnf);first|refine Ej ?_|refine Gp (by assumption) ?_|refine Al (a) (by first|rfl|(simp only[D8,AV.ren,AV.give,D.un,Ef,D7,D6,Ap,Am,Ak,Ea,Ed,Iu,H9,Gz,Fy,E8,Gx,Ep,Eo];first|done|rfl)) ?_));(all_goals(conv=>whnf))
  all_goals(refine E0 ?_;(repeat'(first|exact Er _|refine A1 ?_ ?_|exact rfl)))
 rw[lrA,Ai j] at a
 by_cases w:r.l.length≠2
 ·rw[Rb (.inr w)]
  have J:((r.l.length:Int) !=2)=true:=by rw[Av];omega
  refine Fl 65 _ Eg mixed Tryz.func351 rfl Ac rfl rfl rfl rfl fun k fp0 m=> ?_
  (repeat'((conv=>whnf);first|refine zY ?_|refine Gp (by assumption) ?_|refine Al (a) (by first|rfl|(simp only[D8,AV.ren,AV.give,D.un,Ef,D7,D6,Ap,Am,Ak,Ea,Ed,Iu,H9,Gz,Fy,E8,Gx,Ep,Eo];first|done|rfl)) ?_));(all_goals(conv=>whnf))
  all_goals(refine E0 ?_;(repeat'(first|exact Er _|refine A1 ?_ ?_|exact rfl)))
 obtain⟨l,c,o⟩:=r
 obtain⟨x,y,rfl⟩:∃x y,l=[x,y]:=by
  match l,w with
  |[x,y],_=>exact⟨x,y,rfl⟩
  |[],h=>simp at h
  |[x],h=>simp at h
  |x::y::z::r,h=>simp at h
 obtain rfl:c=0:=As.1 j
 obtain⟨H,E,C⟩:=e x Ab
 obtain⟨F,L,I⟩:=e y Ab
 have g:=Fo x 0 6 false
 have f:=G5 (bod b x) (by unfold bod;rw[Ec,Eh];omega)
 have u:=NO (odT (bod b x)) (elO b y) (by unfold elO;rw[Ec,Eh];omega)
 have t:([x,y]:List El)[0]?=some x:=rfl
 have B:([x,y]:List El)[1]?=some y:=rfl
 show Es _ _ _ (fun r=>r=WF (if x.isB 0 6 false=true∧odC (bod b x)=0 then some (odT (bod b x),elO b y) else none))
 cases v:x.isB 0 6 false
 ·rw[v] at g
  rw[Ai Ab]
  refine Fl 65 _ Eg mixed Tryz.func351 rfl Ac rfl rfl rfl rfl fun k fp0 m=> ?_
  (repeat'((conv=>whnf);first|refine zY ?_|refine Al (a) (by first|rfl|(simp only[D8,AV.ren,AV.give,D.un,Ef,D7,D6,Ap,Am,Ak,Ea,Ed,Iu,H9,Gz,Fy,E8,Gx,Ep,Eo];first|done|rfl)) ?_|refine NIdx.tab (fun _=>rfl) t ?_|refine Al (g) Ah ?_));(all_goals(conv=>whnf))
  all_goals(refine E0 ?_;(repeat'(first|exact Er _|refine A1 ?_ ?_|exact rfl)))
 rw[v] at g
 by_cases s:odC (bod b x)=0
 ·rw[Aj ⟨rfl,s⟩]
  rw[Ox,s] at f
  show Es _ _ _ (fun r=>r= .tup [.agg [sx (odT (bod b x)),.d (bU (spl (elO b y) 17))],bv (okM (elO b y))])
  unfold okM
  unfold bod at f u⊢
  refine Fl 65 _ Eg mixed Tryz.func351 rfl Ac rfl rfl rfl rfl fun k fp0 m=> ?_
  (repeat'((conv=>whnf);first|refine Ee ?_|refine Al (a) (by first|rfl|(simp only[D8,AV.ren,AV.give,D.un,Ef,D7,D6,Ap,Am,Ak,Ea,Ed,Iu,H9,Gz,Fy,E8,Gx,Ep,Eo];first|done|rfl)) ?_|refine NIdx.tab (fun _=>rfl) t ?_|refine NIdx.tab (fun _=>rfl) B ?_|refine Al (g) Ah ?_|refine NSl.slice (x.body) (x.stop) ?_|refine NSl.slice (y.at') (y.stop) ?_|refine Al (f) (by first|rfl|(simp only[D8,AV.ren,AV.give,D.un,Ef,D7,D6,Ap,Am,Ak,Ea,Ed,Iu,H9,Gz,Fy,E8,Gx,Ep,Eo];first|done|rfl)) ?_|refine Al (u) (by first|rfl|(simp only[D8,AV.ren,AV.give,D.un,Ef,D7,D6,Ap,Am,Ak,Ea,Ed,Iu,H9,Gz,Fy,E8,Gx,Ep,Eo];first|done|rfl)) ?_|refine zF ?_));(all_goals(conv=>whnf))
  all_goals(refine E0 ?_;(repeat'(first|exact Er _|refine A1 ?_ ?_|exact rfl)))
 ·rw[Ai (fun h=>s h.2)]
  have gd:((odC (bod b x):Int) !=0)=true:=by rw[Av];omega
  rw[Ox] at f
  unfold bod at f u gd
  refine Fl 65 _ Eg mixed Tryz.func351 rfl Ac rfl rfl rfl rfl fun k fp0 m=> ?_
  (repeat'((conv=>whnf);first|refine Ee ?_|refine Gp (by assumption) ?_|refine Al (a) (by first|rfl|(simp only[D8,AV.ren,AV.give,D.un,Ef,D7,D6,Ap,Am,Ak,Ea,Ed,Iu,H9,Gz,Fy,E8,Gx,Ep,Eo];first|done|rfl)) ?_|refine NIdx.tab (fun _=>rfl) t ?_|refine Al (g) Ah ?_|refine NSl.slice (x.body) (x.stop) ?_|refine Al (f) (by first|rfl|(simp only[D8,AV.ren,AV.give,D.un,Ef,D7,D6,Ap,Am,Ak,Ea,Ed,Iu,H9,Gz,Fy,E8,Gx,Ep,Eo];first|done|rfl)) ?_|refine zF ?_));(all_goals(conv=>whnf))
  all_goals(refine E0 ?_;(repeat'(first|exact Er _|refine A1 ?_ ?_|exact rfl)))
def muO (m:Mu):List D:=[.v (.string ⟨⟨m.oid⟩⟩),bU m.vs]
def eh (l:List Mu):D:=J5 true 2 muO l
def vMu (s:List UInt8):Option Mu:=match Qp s with
 |some (id,t)=>if okM t=true then some ⟨id,spl t 17⟩ else none
 |none=>none
def Pe (b:List UInt8):List El→Option (List Mu)×Nat
 |[]=>(some [],0)
 |x::r=>match vMu (elO b x) with
  |none=>(none,x.at')
  |some m=>match Pe b r with
   |(some ms,_)=>(some (m::ms),0)
   |(none,p)=>(none,p)
def uZ (ms:List Mu):Option (List Mu)×Nat→Option (List Mu)×Nat
 |(some r,_)=>(some (ms++r),0)
 |(none,p)=>(none,p)
theorem FR (b:List UInt8):∀l:List El,(Pe b l).1.isSome=true→(Pe b l).2=0
 |[],_=>rfl
 |x::r,h=>by
  rw[Pe] at h⊢
  cases a:vMu (elO b x) with
  |none=>rw[a] at h;cases h
  |some m=>
   rw[a] at h
   cases e:Pe b r with
   |mk o p=>rw[e] at h;cases o with
    |none=>cases h
    |some f=>rfl
theorem NQ (b:List UInt8) (l:List El):uZ [] (Pe b l)=Pe b l:=by
 have h:=FR b l
 cases a:Pe b l with
 |mk o p=>
  rw[a] at h
  cases o with
  |none=>rfl
  |some e=>have:=h rfl;simp only at this;subst this;rfl
theorem FS {x:El} {r:List El} {m:Mu} (a:List Mu) (e:vMu (elO b x)=some m):uZ a (Pe b (x::r))=uZ (a++[m]) (Pe b r):=by
 rw[Pe,e]
 cases f:Pe b r with
 |mk o p=>cases o with
  |none=>rfl
  |some l=>simp[uZ]
def FT (b:List UInt8):AV:=if(Dn b 0 16).code≠0 then .tup [Ff,erA (Dn b 0 16).code (Dn b 0 16).off] else
 match Pe b (Dn b 0 16).l with
 |(none,p)=> .tup [Ff,erA 6 p]
 |(some [],_)=> .tup [Ff,erA 1 b.length]
 |(some ms,_)=> .tup [.d (eh ms),erA 0 0]
theorem Lt {l:List α} {x:α} (h:l[i]?=some x):l.drop i=x::l.drop (i+1):=by
 obtain⟨a,e⟩:=Ew.1 h
 rw[A5 a,e]
theorem NR (b:List UInt8) (T:b.length≤30000):aC 276 [mpA,.d (By false b)] (FT b):=by
 have f:=Fc b 0 16 Aa
 have j:=fun x=>Ez (b:=b) (c:=0) (n:=16) (x:=x)
 have t:=F4 b 0 16
 unfold FT
 generalize Dn b 0 16=R at f j t⊢
 by_cases y:R.code≠0
 ·rw[Aj y]
  rw[lrA,Aj y] at f
  have I:((R.code:Int) !=0)=true:=by rw[Av];omega
  generalize R.code=c at f I
  generalize R.off=o at f
  refine Fl 57 _ Eg mixed Tryz.func276 rfl Ac rfl rfl rfl rfl fun H fp0 M=> ?_
  (repeat'((conv=>whnf);first|refine Gp (by assumption) ?_|refine Al (f) (by first|rfl|(simp only[D8,AV.ren,AV.give,D.un,Ef,D7,D6,Ap,Am,Ak,Ea,Ed,Iu,H9,Gz,Fy,E8,Gx,Ep,Eo];first|done|rfl)) ?_|refine zF ?_));(all_goals(conv=>whnf))
  all_goals(refine E0 ?_;(repeat'(first|exact Er _|refine A1 ?_ ?_|exact rfl)))
 rw[Ai y]
 rw[lrA,Ai y] at f
 generalize R.l=l at f j t⊢
 have v:Pe b l=uZ [] (Pe b (l.drop 0)):=by rw[NQ,List.drop_zero]
 generalize Q:Pe b l=q at v⊢
 refine Fl 57 _ Eg mixed Tryz.func276 rfl Ac rfl rfl rfl rfl fun H fp0 M=> ?_
 (repeat'((conv=>whnf);first|refine Ee ?_|refine Al (f) (by first|rfl|(simp only[D8,AV.ren,AV.give,D.un,Ef,D7,D6,Ap,Am,Ak,Ea,Ed,Iu,H9,Gz,Fy,E8,Gx,Ep,Eo];first|done|rfl)) ?_));(all_goals(conv=>whnf))
 refine F2 [.s 8 2 463] (fun z:Nat×List Mu=>z.1≤l.length∧z.2.length≤z.1∧q=uZ z.2 (Pe b (l.drop z.1))) (fun z=>l.length-z.1) (fun z=>⟨[(1,.d (By false b)),(2,.ptr 2 0),(5,.ptr 5 0),(8,Fy 8 2 463 muO z.2),(22,.d (Gw l)),(23,iv l.length),(24,iv z.1)],[(2,[.d (.fn 348 []),.d (.fn 350 [])]),(5,[iv 0,iv 0])],[(8,(z.2.length,2,463))]⟩) (0,[]) ⟨Ab,Ab,v⟩ (by((repeat'(first|exact trivial|exact Er _|refine A1 ?_ ?_|exact rfl)))) ?_
 rintro⟨i,B⟩ ⟨N,K,g⟩
 simp only at N K g
 by_cases E:i<l.length
 ·have J:decide ((i:Int)<l.length)=true:=Aq Aa
  obtain⟨x,u⟩:∃p,l[i]?=some p:=⟨_,Ev E⟩
  obtain⟨U,P,O⟩:=j x (F9 u)
  have a:=NP (elO b x) (by unfold elO;rw[Ec,Eh];omega)
  rw[Lt u] at g
  have e:vMu (elO b x)=none→q=(none,x.at'):=fun h=>by rw[g,Pe,h];rfl
  unfold vMu at e
  cases C:Qp (elO b x) with
  |none=>
   rw[C] at a e
   rw[e rfl]
   rw[WF] at a
   unfold elO at a
   (repeat'((conv=>whnf);first|refine Ej ?_|refine Gp (by assumption) ?_|refine NIdx.tab (fun _=>rfl) u ?_|refine NSl.slice (x.at') (x.stop) ?_|refine Al (a) (by first|rfl|(simp only[D8,AV.ren,AV.give,D.un,Ef,D7,D6,Ap,Am,Ak,Ea,Ed,Iu,H9,Gz,Fy,E8,Gx,Ep,Eo];first|done|rfl)) ?_|refine zF ?_));(all_goals(conv=>whnf))
   all_goals(refine E0 ?_;(repeat'(first|exact Er _|refine A1 ?_ ?_|exact rfl)))
  |some w=>
   obtain⟨id,s⟩:=w
   rw[C] at a e
   rw[WF] at a
   cases A:okM s
   ·rw[A] at a
    have k:q=(none,x.at'):=e (by show(if okM s=true then some (⟨id,spl s 17⟩:Mu) else none)=none;rw[A];rfl)
    rw[k]
    unfold elO at a
    (repeat'((conv=>whnf);first|refine Ej ?_|refine Gp (by assumption) ?_|refine NIdx.tab (fun _=>rfl) u ?_|refine NSl.slice (x.at') (x.stop) ?_|refine Al (a) (by first|rfl|(simp only[D8,AV.ren,AV.give,D.un,Ef,D7,D6,Ap,Am,Ak,Ea,Ed,Iu,H9,Gz,Fy,E8,Gx,Ep,Eo];first|done|rfl)) ?_|refine zF ?_));(all_goals(conv=>whnf))
    all_goals(refine E0 ?_;(repeat'(first|exact Er _|refine A1 ?_ ?_|exact rfl)))
   ·have L:vMu (elO b x)=some ⟨id,spl s 17⟩:=by unfold vMu;rw[C];show(if okM s=true then _ else _)=_;rw[Aj A]
    rw[A] at a
    rw[FS B L] at g
    unfold elO at a
    (repeat'((conv=>whnf);first|refine Ee ?_|refine Gp (by assumption) ?_|refine NIdx.tab (fun _=>rfl) u ?_|refine NSl.slice (x.at') (x.stop) ?_|refine Al (a) (by first|rfl|(simp only[D8,AV.ren,AV.give,D.un,Ef,D7,D6,Ap,Am,Ak,Ea,Ed,Iu,H9,Gz,Fy,E8,Gx,Ep,Eo];first|done|rfl)) ?_|refine E4 muO (⟨id,spl s 17⟩:Mu) ?_|refine zI ?_|refine zF ?_));(all_goals(conv=>whnf))
    refine⟨(i+1,B++[⟨id,spl s 17⟩]),⟨by show i+1≤_;omega,Af,g⟩,by show l.length-(i+1)<l.length-i;omega,?_⟩
    ((repeat'(first|exact trivial|exact Er _|refine A1 ?_ ?_|exact rfl)))
 ·have J:decide ((i:Int)<l.length)=false:=Ao Aa
  obtain rfl:i=l.length:=Aa
  rw[List.drop_length,Pe] at g
  have F:q=(some B,0):=by rw[g];simp[uZ]
  subst F
  cases B with
  |nil=>
   (repeat'((conv=>whnf);first|refine Ej ?_|refine He (by assumption) ?_));(all_goals(conv=>whnf))
   all_goals(refine E0 ?_;(repeat'(first|exact Er _|refine A1 ?_ ?_|exact rfl)))
  |cons m r=>
   (repeat'((conv=>whnf);first|refine Ee ?_|refine He (by assumption) ?_));(all_goals(conv=>whnf))
   all_goals(refine E0 ?_;(repeat'(first|exact trivial|exact Er _|refine A1 ?_ ?_|exact rfl)))
theorem FU (b:List UInt8) (k:b.length≤30000):aC 214 [.d (By false b)] (FT b):=by
 have e:=NM
 have a:=NR b k
 unfold FT at a⊢
 by_cases h:(Dn b 0 16).code≠0
 ·rw[Aj h] at a⊢
  generalize (Dn b 0 16).code=c at a
  generalize (Dn b 0 16).off=o at a
  refine Fl 9 _ Eg mixed Tryz.func214 rfl Ac rfl rfl rfl rfl fun f fp0 g=> ?_
  (repeat'((conv=>whnf);first|refine Al (e) Ah ?_|refine Al (a) (by first|rfl|(simp only[D8,AV.ren,AV.give,D.un,Ef,D7,D6,Ap,Am,Ak,Ea,Ed,Iu,H9,Gz,Fy,E8,Gx,Ep,Eo];first|done|rfl)) ?_));(all_goals(conv=>whnf))
  all_goals(refine E0 ?_;(repeat'(first|exact Er _|refine A1 ?_ ?_|exact rfl)))
 rw[Ai h] at a⊢
 generalize Pe b (Dn b 0 16).l=q at a⊢
 obtain⟨o,p⟩:=q
 match o with
 |none=>
  replace a:aC 276 [mpA,.d (By false b)] (.tup [Ff,erA 6 p]):=a
  show Es _ _ _ (fun r=>r= .tup [Ff,erA 6 p])
  refine Fl 9 _ Eg mixed Tryz.func214 rfl Ac rfl rfl rfl rfl fun f fp0 g=> ?_
  (repeat'((conv=>whnf);first|refine Al (e) Ah ?_|refine Al (a) (by first|rfl|(simp only[D8,AV.ren,AV.give,D.un,Ef,D7,D6,Ap,Am,Ak,Ea,Ed,Iu,H9,Gz,Fy,E8,Gx,Ep,Eo];first|done|rfl)) ?_));(all_goals(conv=>whnf))
  all_goals(refine E0 ?_;(repeat'(first|exact Er _|refine A1 ?_ ?_|exact rfl)))
 |some []=>
  replace a:aC 276 [mpA,.d (By false b)] (.tup [Ff,erA 1 b.length]):=a
  show Es _ _ _ (fun r=>r= .tup [Ff,erA 1 b.length])
  refine Fl 9 _ Eg mixed Tryz.func214 rfl Ac rfl rfl rfl rfl fun f fp0 g=> ?_
  (repeat'((conv=>whnf);first|refine Al (e) Ah ?_|refine Al (a) (by first|rfl|(simp only[D8,AV.ren,AV.give,D.un,Ef,D7,D6,Ap,Am,Ak,Ea,Ed,Iu,H9,Gz,Fy,E8,Gx,Ep,Eo];first|done|rfl)) ?_));(all_goals(conv=>whnf))
  all_goals(refine E0 ?_;(repeat'(first|exact Er _|refine A1 ?_ ?_|exact rfl)))
 |some (m::r)=>
  replace a:aC 276 [mpA,.d (By false b)] (.tup [.d (eh (m::r)),erA 0 0]):=a
  show Es _ _ _ (fun j=>j= .tup [.d (eh (m::r)),erA 0 0])
  refine Fl 9 _ Eg mixed Tryz.func214 rfl Ac rfl rfl rfl rfl fun f fp0 g=> ?_
  (repeat'((conv=>whnf);first|refine Al (e) Ah ?_|refine Al (a) (by first|rfl|(simp only[D8,AV.ren,AV.give,D.un,Ef,D7,D6,Ap,Am,Ak,Ea,Ed,Iu,H9,Gz,Fy,E8,Gx,Ep,Eo];first|done|rfl)) ?_));(all_goals(conv=>whnf))
  all_goals(refine E0 ?_;(repeat'(first|exact Er _|refine A1 ?_ ?_|exact rfl)))
structure Mu.md (m:Mu):Prop where
 o:m.oid.length≤1000000000
 n:m.vs.length≤1000000
 v:∀p∈m.vs,p.length≤1000000000
deriving instance DecidableEq for Mu
def RdE (rd:List UInt8→TR):Prop:=∀l t sz,rd l=⟨[t],sz,0,0⟩→t.ok∧t.enc=l.take sz
theorem NS {a:List UInt8→TR} (m:RdT a) (w:RdE a):∀(f:Nat) (l:List UInt8),l.length≤f→(Jl a l).code=0→Xy (Jl a l).l∧N8 (Jl a l).l=l:=by
 intro f
 induction f with
 |zero=>
  intro l h _
  have:l=[]:=Bn Aa
  subst this
  rw[gI rfl,Xy,N8]
  exact⟨trivial,rfl⟩
 |succ f r=>
  intro l h e
  by_cases k:l.length=0
  ·grind
  ·by_cases g:(a l).code=0
   ·obtain⟨t,sz,o,A,z⟩:=(m l).1 g
    obtain⟨u,x⟩:=w l t sz o
    have y:=bS m k o
    rw[y] at e⊢
    have q:(Jl a (l.drop sz)).code=0:=by
     by_cases j:(Jl a (l.drop sz)).code=0
     ·exact j
     ·rw[Xx j] at e;exact Bg e j
    obtain⟨s,v⟩:=r (l.drop sz) (by rw[Eh];omega) q
    rw[bQ q,Xy,N8,v,x,C5]
    exact⟨⟨u,s⟩,rfl⟩
   ·rw[gJ k g] at e;exact Bg e g
theorem rv:∀d,RdE (rT d):=by
 intro d
 induction d with
 |zero=>intro l t sz h;simp[rT,TR.bad] at h
 |succ d m=>
  intro l t sz h
  have j:=Kj l
  have g:=yW (l:=l)
  simp only[rT] at h
  generalize A:rhS l=q at j g h
  obtain⟨y,C,z,v,w,x,B⟩:=j
  unfold rTH at h
  by_cases f:q.code≠0
  ·rw[Aj f] at h;simp[TR.bad] at h
  rw[Ai f] at h
  by_cases k:l.length<q.size+q.len
  ·rw[Aj k] at h;simp[TR.bad] at h
  rw[Ai k] at h
  have a:=g (As.1 f) Aa
  by_cases k3:q.k=false
  ·rw[Aj k3] at h
   simp only[TR.mk.injEq,Cn,and_true] at h
   obtain⟨rfl,rfl⟩:=h
   rw[a,k3,Tr.ok,Tr.enc,N8,Xy,Am]
   exact⟨⟨Aa,Aa,trivial⟩,rfl⟩
  rw[Ai k3] at h
  by_cases e:(Jl (rT d) ((l.drop q.size).take q.len)).code≠0
  ·rw[Aj e] at h;simp[TR.bad] at h
  rw[Ai e] at h
  simp only[TR.mk.injEq,Cn,and_true] at h
  obtain⟨rfl,rfl⟩:=h
  obtain⟨o,u⟩:=NS (yV d) m _ _ (At _) (As.1 e)
  have r:q.k=true:=by cases s:q.k with|true=>rfl|false=>exact Bg s k3
  rw[a,r,Tr.ok,Tr.enc,u,Ap]
  exact⟨⟨Aa,Aa,o⟩,rfl⟩
def trD (d:Nat) (p:List UInt8):Tr:=(rT d p).l.headD .zero
def One (d:Nat) (p:List UInt8):Prop:=rT d p=⟨[trD d p],p.length,0,0⟩
theorem em {t:Tr} (h:rT d p=⟨[t],p.length,0,0⟩):One d p∧trD d p=t:=by
 grind [trD,One]
theorem One.enc (h:One d p):(trD d p).ok∧(trD d p).enc=p:=by
 have:=rv d p _ _ h
 grind
theorem NT (h:Gt p=true):One 16 p:=by
 grind [WE,NE,eN,em]
theorem One.tv (h:One d p) (g:p.length≤2147483647):∃t:Tv,t.ok∧p=t.enc:=by
 obtain⟨a,e⟩:=h.enc
 generalize trD d p=t at a e
 obtain⟨c,n,k,b,f⟩:=t
 rw[Tr.ok] at a
 rw[Tr.enc] at e
 refine⟨⟨c,n,k,b++N8 f⟩,⟨a.1,a.2.1,?_⟩,e.symm⟩
 have:=Cf List.length e
 grind [L9,N8]
theorem Zn:∀(ts:List Tv) (b pre:List UInt8) (en:Nat),b.take en=pre++tvsE ts→en≤b.length→(els pre.length ts).map (elO b)=ts.map Tv.enc
 |[],_,_,_,_,_=>rfl
 |t::r,b,pre,en,h,hen=>by
  have e:b.take en=(pre++t.enc)++tvsE r:=by rw[h,Fm,Bt]
  have a:=Zn r b (pre++t.enc) en e hen
  rw[En] at a
  rw[els,Bc,a,Bc]
  congr 1
  unfold elO Tv.el
  simp only
  have f:=Cf List.length h
  grind [Ec,Fm,En,List.drop_take,List.drop_left,List.take_left]
theorem Lu (ts:List Tv) (o:c≤3) (l:n≤30) (q:∀t∈ts,t.ok) (s:(tvsE ts).length≤2147483600):∃h:Nat,Dn (Ei c n true (tvsE ts)) c n=⟨els h ts,0,0⟩∧(els h ts).map (elO (Ei c n true (tvsE ts)))=ts.map Tv.enc:=by
 obtain⟨t,e⟩:∃t:Tv,t=⟨c,n,true,tvsE ts⟩:=⟨_,rfl⟩
 have g:t.ok:=by subst e;exact⟨o,l,by show(tvsE ts).length≤_;omega⟩
 have k:Ei c n true (tvsE ts)=t.enc:=by subst e;rfl
 have r:t.v=tvsE ts:=by subst e;rfl
 have m:(t.el 0).isB c n true=true:=by subst e;simp[El.isB,Tv.el]
 have j:=t.len
 have f:(t.enc.take t.hd).length=t.hd:=by rw[Ec];omega
 have a:t.enc.take t.enc.length=t.enc.take t.hd++tvsE ts:=by
  rw[Bv,←r,←t.body,C5]
 refine⟨t.hd,?_,?_⟩
 ·rw[k]
  unfold Dn
  rw[Nk g,Ai Ab]
  simp only[m]
  rw[Ai Ab]
  show F7 t.enc (0+t.hd) (0+t.enc.length)=_
  have:=Qo ts t.enc (t.enc.take t.hd) t.enc.length q a (At _)
  grind
 ·rw[k]
  have:=Zn ts t.enc (t.enc.take t.hd) t.enc.length a (At _)
  rwa[f] at this
theorem J2 (h:(Dn b c n).code=0):∃ts:List Tv,(∀t∈ts,t.ok)∧b=Ei c n true (tvsE ts)∧c≤3∧n≤30∧(tvsE ts).length≤2147483647:=by
 unfold Dn at h
 by_cases a:(Em b).code≠0
 ·rw[Aj a] at h;exact Bg h a
 rw[Ai a] at h
 by_cases e:(Em b).x.isB c n true=false
 ·rw[Aj e] at h;cases h
 rw[Ai e] at h
 obtain⟨t,f,o,l⟩:=Qn (As.1 a)
 rw[o] at h e
 have g:(t.el 0).isB c n true=true:=by simpa using e
 unfold El.isB Tv.el at g
 simp only[Et,A9] at g
 obtain⟨⟨u,v⟩,w⟩:=g
 have k:=t.len
 have j:(F7 b (0+t.hd) (0+t.enc.length)).code=0:=h
 rw[A0,A0] at j
 obtain⟨ts,r,-,m⟩:=Tx _ b t.hd t.enc.length (At _) Aa (by rw[l];omega) j
 have q:(b.drop t.hd).take (t.enc.length-t.hd)=t.v:=by
  rw[l,t.body];exact B3 Aa
 rw[q] at m
 have y:=f.c
 have s:=f.n
 have x:=f.v
 grind [Tv.enc]
theorem NU (b:List UInt8) (a:Nat) (t:Tv):bod b (t.el a)=(elO b (t.el a)).drop t.hd:=by
 grind [bod,elO,Tv.el,List.drop_take,List.drop_drop]
theorem oN (x y:Tv) (j:x.ok) (k:y.ok) (f:(tvsE [x,y]).length≤2147483600):Qp (Ei 0 16 true (tvsE [x,y]))=if(x.el 0).isB 0 6 false=true∧odC x.v=0 then some (odT x.v,y.enc) else none:=by
 obtain⟨h,e,a⟩:=Lu (c:=0) (n:=16) [x,y] Aa Aa (fun t g=>by
  grind) f
 unfold Qp
 rw[e]
 simp only[els,Bc,List.map_nil,Cn,and_true] at a
 show(if(x.el h).isB 0 6 false=true∧odC (bod _ (x.el h))=0 then some (odT (bod _ (x.el h)),elO _ (y.el (h+x.enc.length))) else none)=_
 rw[NU,a.1,x.body,a.2]
 rfl
theorem jW:∀{l:List (List UInt8)},(∀p∈l,∃t:Tv,t.ok∧p=t.enc)→∃ts:List Tv,(∀t∈ts,t.ok)∧l=ts.map Tv.enc
 |[],_=>⟨[],Ab,rfl⟩
 |p::r,h=>by
  obtain⟨t,g,e⟩:=h p Ab
  obtain⟨ts,j,a⟩:=jW (l:=r) fun q f=>h q (by simp[f])
  exact⟨t::ts,fun u k=>by
   grind,by rw[Bc,e,a]⟩
theorem Iq (ts:List Tv):tvsE ts=(ts.map Tv.enc).flatten:=List.flatMap_def ..
theorem vA {r:LR} {w:List UInt8×List UInt8} (h:oM b r=some w):r.code=0∧r.l.length=2:=by
 refine⟨?_,?_⟩
 ·refine Decidable.byContradiction fun a=> ?_
  rw[Rb (.inl a)] at h;cases h
 ·refine Decidable.byContradiction fun a=> ?_
  rw[Rb (.inr a)] at h;cases h
theorem i7 (a:Nat) (ts:List Tv):(els a ts).length=ts.length:=by
 induction ts generalizing a with
 |nil=>rfl
 |cons t r e=>grind [els,D9]
theorem oO (l:Bool) (n:Nat):1≤(H5 l n).length:=by
 rw[H5];split<;>simp
theorem Yw:∀l:List Nat,l.length≤(l.flatMap (H5 true)).length
 |[]=>by simp
 |n::r=>by
  have:=oO true n
  have:=Yw r
  rw[A4,En,D9];omega
theorem jX (c:List UInt8):(odT c).length≤21*(c.length+1):=by
 unfold odT
 cases g:Y6 c with
 |none=>simp
 |some a=>
  obtain⟨e,f,k3⟩:=gD g
  have h:=Xw a f
  obtain⟨x,y,r,rfl,-⟩:=Lr e
  grind [oO,Yw,jO,En,D9,Jc]
end Go.Proofs.YtbedjionhmaafaaGreatDoor
