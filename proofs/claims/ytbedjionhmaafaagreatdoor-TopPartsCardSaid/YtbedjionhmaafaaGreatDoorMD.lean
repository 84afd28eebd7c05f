/- MD: the texts Tlv Tlv2 Tlv3 El Cmp Ref1 Ref2 Ref3 Ref4 Rev Min Grow Concat List Ord Ref5 Split, one behind the other. No condition but what each lemma says. -/
import Derived.Test.YtbedjionhmaafaaGreatDoorMC
import Derived.Test.YtbedjionhmaafaaGreatDoorShelf
import Derived.Shelf.SlicesE.Reverse
import Derived.Shelf.Spec.SlicesGrow
set_option linter.all false
set_option maxRecDepth 100000
set_option maxHeartbeats 16000000
namespace Go.Proofs.YtbedjionhmaafaaGreatDoor
open Go.RowKit
variable {x:UInt8} {r b l:List UInt8} {k at' en n c:Nat} {ps:List (List UInt8)} {p:Prop}
def V4 (c n:Int):Bool:=decide (c<0)||decide (c>3)||decide (n<0)||decide (n≥31)
def idN (c:Int) (k:Bool) (n:Int):Nat:=(c*64+n).toNat+(if k then 32 else 0)
def idX (c n:Int):Int:=IntKind.u8.wrap (IntKind.i64.wrap ((BitVec.ofInt 64 (IntKind.i64.wrap (c*2^6))|||BitVec.ofInt 64 n).toNat:Int))
theorem VJ:∀c:Fin 4,∀n:Fin 31,idX c.1 n.1=(idN c.1 false n.1:Nat)∧IntKind.u8.wrap ((BitVec.ofInt 8 (idX c.1 n.1)|||BitVec.ofInt 8 32).toNat:Int)=(idN c.1 true n.1:Nat):=by decide+kernel
theorem be {c n:Int} (h:V4 c n=false):idX c n=(idN c false n:Nat)∧IntKind.u8.wrap ((BitVec.ofInt 8 (idX c n)|||BitVec.ofInt 8 32).toNat:Int)=(idN c true n:Nat):=by
 simp only[V4,Ds,Ar] at h
 obtain⟨c',rfl⟩:∃c':Nat,c=c':=⟨c.toNat,Aa⟩
 obtain⟨n',rfl⟩:∃n':Nat,n=n':=⟨n.toNat,Aa⟩
 exact VJ ⟨c',Aa⟩ ⟨n',Aa⟩
theorem EL (c n:Int) (k:Bool):aC 135 [iv c,bv k,iv n] (if V4 c n then .tup [cv 0,iv 9] else .tup [cv (idN c k n),iv 0]):=by
 cases e:V4 c n with
 |true=>
  have d:=e
  simp only[V4,Co,A3] at d
  refine acQ 32 Tryz.func135 rfl rfl fun _ _ _=> ?_
  (repeat'((conv=>whnf);first|refine zY ?_|(refine E7 (fun f a=> ?_) (fun f a=> ?_)<;>try(exfalso;omega))|exact zE))
 |false=>
  have d:=e
  simp only[V4,Ds,Ar] at d
  refine acQ 32 Tryz.func135 rfl rfl fun _ _ _=> ?_
  cases k
  all_goals
   (repeat'((conv=>whnf);first|refine zY ?_|refine Fv (by first|decide|omega|(simp only[D9,Ax];omega)) ?_|refine NInt.as _ rfl ?_|(refine E7 (fun f a=> ?_) (fun f a=> ?_)<;>try(exfalso;omega))));(all_goals(conv=>whnf))
   (refine E0 ?_;(repeat'(first|exact trivial|exact Er _|refine A1 ?_ ?_|exact rfl));(all_goals(conv=>whnf)))
  ·exact(be e).1
  ·exact(be e).2
theorem LL {c n:Int} (k:Bool) (h:V4 c n=false):aC 135 [iv c,bv k,iv n] (.tup [cv (idN c k n),iv 0]):=(EL c n k).mono fun r a=>by rw[a,h];rfl
def LM (x:Nat):AV:=if x%32=31 then .tup [iv 0,bv false,iv 0,iv 3] else .tup [iv (x/64:Nat),bv (x/32%2==1),iv (x%32:Nat),iv 0]
theorem LN:∀x:Fin 256,(IntKind.u8.wrap ((BitVec.ofInt 8 (x.1:Int)&&&BitVec.ofInt 8 31).toNat:Int))=(x.1%32:Nat)∧(IntKind.u8.wrap ((BitVec.ofInt 8 (x.1:Int)&&&BitVec.ofInt 8 32).toNat:Int))=(x.1/32%2*32:Nat)∧IntKind.i64.wrap ((x.1:Int).fdiv (2^6))=(x.1/64:Nat)∧IntKind.i64.wrap (x.1%32:Nat)=(x.1%32:Nat):=by decide+kernel
theorem aS (x:Nat) (q:x<256):aC 186 [cv x] (LM x):=by
 obtain⟨f,j,g,i⟩:=LN ⟨x,q⟩
 simp only at f j g i
 by_cases a:x%32=31
 ·rw[LM,Aj a]
  refine acQ 18 Tryz.func186 rfl rfl fun _ _ _=> ?_
  (repeat'((conv=>whnf);first|refine NInt.as (((x%32:Nat):Int)) (f) ?_|(refine E7 (fun e d=> ?_) (fun e d=> ?_)<;>try(exfalso;omega))|exact zE))
 ·rw[LM,Ai a]
  refine acQ 18 Tryz.func186 rfl rfl fun _ _ _=> ?_
  (repeat'((conv=>whnf);first|refine NInt.as (((x%32:Nat):Int)) (f) ?_|refine NInt.as (((x/32%2*32:Nat):Int)) (j) ?_|refine zI ?_|refine Fv (by first|decide|omega|(simp only[D9,Ax];omega)) ?_|refine NInt.as _ rfl ?_|(refine E7 (fun e d=> ?_) (fun e d=> ?_)<;>try(exfalso;omega))));(all_goals(conv=>whnf))
  all_goals(refine E0 ?_;(repeat'(first|exact trivial|exact Er _|refine A1 ?_ ?_|exact rfl));(all_goals(conv=>whnf)))
  have m:IntKind.i64.wrap ((x/64:Nat):Int)=((x/64:Nat):Int):=Bl _ Aa
  all_goals first|exact g|exact i|exact m|skip
  rw[Bz];simp only[Av,Du,A9];omega
def jq (c o:Int):AV:= .tup [iv 0,iv 0,.agg [iv c,iv o]]
theorem Uv (c o:Int):aC 256 [iv c,iv o] (jq c o):=by
 refine acQ 10 Tryz.func256 rfl rfl fun _ _ _=> ?_
 (all_goals(conv=>whnf))
 all_goals exact zE
 all_goals rfl
def beV (l:List UInt8):Nat:=l.foldl (fun a b=>a*256+b.toNat) 0
theorem aT (l:List UInt8) (b:UInt8):beV (l++[b])=beV l*256+b.toNat:=by simp[beV]
theorem dq (l:List UInt8):beV l<256^l.length:=by
 have e:∀(l:List UInt8) (a:Nat),l.foldl (fun a b=>a*256+b.toNat) a<(a+1)*256^l.length:=by
  intro l
  induction l with
  |nil=>intro a;simp
  |cons b r d=>
   intro a
   rw[Do,D9,Db]
   have h:=d (a*256+b.toNat)
   have f:=b.toNat_lt
   refine Ci h ?_
   rw[Dv (256^r.length) 256,←Nat.mul_assoc]
   exact Ce _ Aa
 grind [beV]
def rlS:List UInt8→Nat×Nat×Nat×Nat
 |[]=>(0,0,1,0)
 |x::r=>if x.toNat<128 then(x.toNat,1,0,0) else if x.toNat=128∨x.toNat>132 then(0,0,4,0) else if r.length<x.toNat-128 then(0,0,1,r.length+1) else
   if(r.headD 0).toNat=0∨beV (r.take (x.toNat-128))<128∨beV (r.take (x.toNat-128))>2147483647 then(0,0,4,0) else(beV (r.take (x.toNat-128)),x.toNat-127,0,0)
def rlA (p:Nat×Nat×Nat×Nat):AV:= .tup [iv p.1,iv p.2.1,.agg [iv p.2.2.1,iv p.2.2.2]]
theorem Xs (h:x.toNat<128):rlS (x::r)=(x.toNat,1,0,0):=by rw[rlS,Aj h]
theorem nI (h:128≤x.toNat) (a:x.toNat=128∨x.toNat>132):rlS (x::r)=(0,0,4,0):=by rw[rlS,Ai Aa,Aj a]
theorem fT (h:128<x.toNat) (d:x.toNat≤132) (a:r.length<x.toNat-128):rlS (x::r)=(0,0,1,r.length+1):=by rw[rlS,Ai Aa,Ai Aa,Aj a]
theorem xV {y:UInt8} {s:List UInt8} (a:x.toNat=k+128) (h:1≤k) (f:k≤4) (d:k≤s.length+1) (e:y.toNat=0∨beV ((y::s).take k)<128∨beV ((y::s).take k)>2147483647):rlS (x::y::s)=(0,0,4,0):=by
 rw[rlS,a,Cj]
 grind
theorem uB {y:UInt8} {s:List UInt8} (a:x.toNat=k+128) (h:1≤k) (f:k≤4) (d:k≤s.length+1) (e:¬(y.toNat=0∨beV ((y::s).take k)<128∨beV ((y::s).take k)>2147483647)):rlS (x::y::s)=(beV ((y::s).take k),k+1,0,0):=by
 rw[rlS,a,Cj]
 grind
theorem LO (n:Nat) (b:UInt8) (e:n<4294967296):IntKind.i64.wrap ((BitVec.ofInt IntKind.i64.bits (IntKind.i64.wrap ((n:Int)*2^(min (Int.toNat 8) IntKind.i64.bits)))|||BitVec.ofInt IntKind.i64.bits (b.toNat:Int)).toNat:Int)=((n*256+b.toNat:Nat):Int):=by
 have f:=b.toNat_lt
 have d:IntKind.i64.wrap ((n:Int)*2^(min (Int.toNat 8) IntKind.i64.bits))=((n*256:Nat):Int):=by
  have:(2:Int)^(min (Int.toNat 8) IntKind.i64.bits)=256:=Ae
  rw[this,Bl _ Aa];omega
 rw[d,BitVec.toNat_or,BitVec.ofInt_natCast,BitVec.ofInt_natCast,BitVec.toNat_ofNat,BitVec.toNat_ofNat]
 have a:2^IntKind.i64.bits=18446744073709551616:=Ae
 rw[a,Nat.mod_eq_of_lt Aa,Nat.mod_eq_of_lt Aa]
 have:n*256|||b.toNat=n*256+b.toNat:=by
  have h:=Nat.shiftLeft_add_eq_or_of_lt (i:=8) (b:=b.toNat) Aa n
  rw[Nat.shiftLeft_eq] at h
  exact h.symm
 rw[this,Bl _ Aa]
theorem nJ (l:List UInt8) (A:l.length≤1000000000):aC 187 [.d (By false l)] (rlA (rlS l)):=by
 cases l with
 |nil=>
  refine acQ 87 Tryz.func187 rfl rfl fun _ _ _=> ?_
  (repeat'((conv=>whnf);first|refine Ej ?_|refine Al (Uv _ _) rfl ?_|exact zE))
 |cons x r=>
  have I:=x.toNat_lt
  have E:(x::r)[0]?=some x:=rfl
  simp only[D9] at A
  refine acQ 87 Tryz.func187 rfl rfl fun _ _ _=> ?_
  (repeat'((conv=>whnf);first|refine zY ?_|refine Al (Uv _ _) rfl ?_|refine NIdx.bytes E ?_|refine zI ?_|(refine E7 (fun d a=> ?_) (fun d a=> ?_)<;>try(exfalso;omega))));(all_goals(conv=>whnf))
  all_goals try(simp only[D9] at*;first|(rw[Xs Aa];exact zE)|(rw[nI Aa Aa];exact zE)|(rw[fT Aa Aa Aa];exact zE))
  simp only[D9] at*
  obtain⟨k,u⟩:∃k:Nat,x.toNat=k+128:=⟨x.toNat-128,Aa⟩
  refine Fh (fun i:Nat=>1≤i∧i≤k+1) (fun i=>k+1-i) (fun i=>⟨[(0,.d (By false (x::r))),(4,.ptr 4 0),(5,.d (.fn 256 [])),(6,iv k),(7,iv (beV (r.take (i-1)))),(8,iv i)],[(4,[iv 0,iv 0])],[]⟩) 1 Aa leQ ?_
  intro i H
  have m:=dq (r.take (i-1))
  by_cases z:i≤k
  ·obtain⟨b,v⟩:∃b,(x::r)[i]?=some b:=⟨_,Ev (by simp only[D9];omega)⟩
   have e:beV (r.take (i-1))<4294967296:=by
    refine Ci m ?_
    refine Bi (Nat.pow_le_pow_right Aa (show(r.take (i-1)).length≤4 by rw[Ec];omega)) Ae
   have f:=LO (beV (r.take (i-1))) b e
   have g:beV (r.take i)=beV (r.take (i-1))*256+b.toNat:=by
    obtain⟨j,rfl⟩:∃j,i=j+1:=⟨i-1,Aa⟩
    have q:j<r.length:=Aa
    have:r[j]?=some b:=by simpa using v
    rw[Ev q] at this
    rw[B7 q,aT,Cj]
    cases this;rfl
   rw[←g] at f
   have B:=b.toNat_lt
   (repeat'((conv=>whnf);first|refine NIdx.bytes v ?_|refine NInt.as (((beV (r.take i):Nat):Int)) (f) ?_|refine zI ?_|refine Fv (by first|decide|omega|(simp only[D9,Ax];omega)) ?_|refine NInt.as _ rfl ?_|(refine E7 (fun d a=> ?_) (fun d a=> ?_)<;>try(exfalso;omega))));(all_goals(conv=>whnf))
   refine⟨i+1,Aa,Aa,?_⟩
   exact leQ
  ·obtain rfl:i=k+1:=by omega
   cases r with
   |nil=>simp only[Ax] at*;omega
   |cons y s=>
    have w:(x::y::s)[1]?=some y:=rfl
    have F:=y.toNat_lt
    rw[Cj] at*
    simp only[D9] at*
    (repeat'((conv=>whnf);first|refine zY ?_|refine NIdx.bytes w ?_|refine Al (Uv _ _) rfl ?_|refine zI ?_|(refine E7 (fun d a=> ?_) (fun d a=> ?_)<;>try(exfalso;omega))));(all_goals(conv=>whnf))
    all_goals first|(rw[xV u Aa Aa Aa Aa];exact zE)|(rw[uB u Aa Aa Aa Aa];exact zE)
theorem uC (h:x.toNat%32=31):aC 186 [cv x.toNat] (.tup [iv 0,bv false,iv 0,iv 3]):=(aS x.toNat x.toNat_lt).mono fun r a=>by rw[a,LM,Aj h]
theorem EM (h:¬x.toNat%32=31):aC 186 [cv x.toNat] (.tup [iv (x.toNat/64:Nat),bv (x.toNat/32%2==1),iv (x.toNat%32:Nat),iv 0]):=(aS x.toNat x.toNat_lt).mono fun r a=>by rw[a,LM,Ai h]
structure Hd where
 c:Nat
 n:Nat
 k:Bool
 len:Nat
 size:Nat
 code:Nat
 off:Nat
variable {h:Hd}
def Hd.bad (code off:Nat):Hd:=⟨0,0,false,0,0,code,off⟩
def rhS:List UInt8→Hd
 |[]=> .bad 1 0
 |x::r=>if x.toNat%32=31 then .bad 3 0 else if(rlS r).2.2.1=0 then⟨x.toNat/64,x.toNat%32,x.toNat/32%2==1,(rlS r).1,(rlS r).2.1+1,0,0⟩ else .bad (rlS r).2.2.1 ((rlS r).2.2.2+1)
def hdA (h:Hd):AV:= .agg [iv h.c,iv h.n,bv h.k,iv h.len,iv h.size]
def erA (c o:Int):AV:= .agg [iv c,iv o]
def rhA (h:Hd):AV:= .tup [hdA h,erA h.code h.off]
theorem aU (l:List UInt8):(rlS l).2.1≤5∧(rlS l).2.2.2≤l.length∧(rlS l).1≤2147483647∧((rlS l).2.2.1=0→(rlS l).2.1≤l.length∧1≤(rlS l).2.1∧(rlS l).2.2.2=0)∧(rlS l).2.2.1≤4:=by
 cases l with
 |nil=>simp[rlS]
 |cons x r=>
  have g:=x.toNat_lt
  rw[rlS]
  by_cases a:x.toNat<128
  ·rw[Aj a];simp;omega
  rw[Ai a]
  by_cases f:x.toNat=128∨x.toNat>132
  ·rw[Aj f];simp
  rw[Ai f]
  by_cases d:r.length<x.toNat-128
  ·rw[Aj d];simp
  rw[Ai d]
  by_cases e:(r.headD 0).toNat=0∨beV (r.take (x.toNat-128))<128∨beV (r.take (x.toNat-128))>2147483647
  ·rw[Aj e];simp
  ·rw[Ai e];simp;omega
theorem V5 (l:List UInt8) (g:l.length≤1000000000):aC 159 [.d (By false l)] (rhA (rhS l)):=by
 cases l with
 |nil=>
  refine acQ 54 Tryz.func159 rfl rfl fun _ _ _=> ?_
  (repeat'((conv=>whnf);refine Ej ?_));(all_goals(conv=>whnf))
  all_goals exact zE
 |cons x r=>
  have v:=x.toNat_lt
  have f:(x::r)[0]?=some x:=rfl
  simp only[D9] at g
  obtain⟨m,q,s,u,j⟩:=aU r
  by_cases a:x.toNat%32=31
  ·rw[rhS,Aj a]
   refine acQ 54 Tryz.func159 rfl rfl fun _ _ _=> ?_
   (repeat'((conv=>whnf);first|refine zY ?_|refine Al (uC a) rfl ?_|refine NIdx.bytes f ?_|exact zE))
  ·refine acQ 54 Tryz.func159 rfl rfl fun _ _ _=> ?_
   (repeat'((conv=>whnf);first|refine Ee ?_|refine Al (EM a) rfl ?_|refine Al (nJ r Aa) gvQ ?_|refine NIdx.bytes f ?_|refine So (1) ?_|refine zI ?_|refine zF ?_|(refine H2 (fun i d=> ?_) (fun i d=> ?_)<;>try(exfalso;omega))));(all_goals(conv=>whnf))
   ·have e:¬(rlS r).2.2.1=0:=by omega
    rw[rhS,Ai a,Ai e];exact zE
   ·have e:(rlS r).2.2.1=0:=by omega
    rw[rhS,Ai a,Aj e];exact zE
theorem Kj (l:List UInt8):((rhS l).code=0→2≤(rhS l).size∧(rhS l).size≤l.length∧(rhS l).off=0)∧(rhS l).size≤6∧(rhS l).off≤l.length∧(rhS l).len≤2147483647∧(rhS l).code≤4∧(rhS l).c≤3∧(rhS l).n≤30:=by
 cases l with
 |nil=>simp[rhS,Hd.bad]
 |cons x r=>
  have i:=x.toNat_lt
  obtain⟨j,m,e,g,f⟩:=aU r
  rw[rhS]
  by_cases a:x.toNat%32=31
  ·rw[Aj a];simp[Hd.bad]
  rw[Ai a]
  by_cases d:(rlS r).2.2.1=0
  ·grind
  ·rw[Ai d]
   grind [Hd.bad,D9,absurd]
structure El where
 c:Nat
 n:Nat
 k:Bool
 at':Nat
 body:Nat
 stop:Nat
 deriving DecidableEq
def El.zero:El:=⟨0,0,false,0,0,0⟩
structure ElR where
 x:El
 code:Nat
 off:Nat
def ElR.bad (code off:Nat):ElR:=⟨.zero,code,off⟩
def nxS (b:List UInt8) (at' en:Nat):ElR:=
 if(rhS ((b.drop at').take (en-at'))).code≠0 then .bad (rhS ((b.drop at').take (en-at'))).code ((rhS ((b.drop at').take (en-at'))).off+at')
 else if en-at'<(rhS ((b.drop at').take (en-at'))).size+(rhS ((b.drop at').take (en-at'))).len then .bad 1 en
 else⟨⟨(rhS ((b.drop at').take (en-at'))).c,(rhS ((b.drop at').take (en-at'))).n,(rhS ((b.drop at').take (en-at'))).k,at',at'+(rhS ((b.drop at').take (en-at'))).size,at'+(rhS ((b.drop at').take (en-at'))).size+(rhS ((b.drop at').take (en-at'))).len⟩,0,0⟩
def elC (e:El):List D:=[.v (.int .i64 e.c),.v (.int .i64 e.n),.v (.bool e.k),.v (.int .i64 e.at'),.v (.int .i64 e.body),.v (.int .i64 e.stop)]
def elA (e:El):AV:= .agg [iv e.c,iv e.n,bv e.k,iv e.at',iv e.body,iv e.stop]
def erR (r:ElR):AV:= .tup [elA r.x,erA r.code r.off]
theorem LP (d:rhS ((b.drop at').take (en-at'))=h) (a:h.code≠0):nxS b at' en= .bad h.code (h.off+at'):=by
 unfold nxS;rw[d,Aj a]
theorem EN (d:rhS ((b.drop at').take (en-at'))=h) (e:h.code=0) (a:en-at'<h.size+h.len):nxS b at' en= .bad 1 en:=by
 unfold nxS;rw[d,Ai Aa,Aj a]
theorem LQ (e:rhS ((b.drop at').take (en-at'))=h) (a:h.code=0) (d:h.size+h.len≤en-at'):nxS b at' en=⟨⟨h.c,h.n,h.k,at',at'+h.size,at'+h.size+h.len⟩,0,0⟩:=by
 unfold nxS;grind
theorem nK (b:List UInt8) (at' en:Nat) (A:b.length≤1000000000) (j:at'≤en) (v:en≤b.length):aC 121 [.d (By false b),iv at',iv en] (erR (nxS b at' en)):=by
 have a:((b.drop at').take (en-at')).length=en-at':=Af
 have i:=V5 ((b.drop at').take (en-at')) Aa
 have e:=Kj ((b.drop at').take (en-at'))
 rw[a] at e
 generalize f:rhS ((b.drop at').take (en-at'))=h at i e
 obtain⟨u,z,w,m,q,s,y⟩:=e
 refine acQ 60 Tryz.func121 rfl rfl fun _ _ _=> ?_
 (repeat'((conv=>whnf);first|refine Al i gvQ ?_|refine NSl.slice (at') (en) ?_|refine zI ?_|refine zF ?_|(refine NBr.mk (fun g=> ?_) (fun g=> ?_)<;>(have d:=g;(try simp only[A3,Ar,Av,B1,Du] at d)<;>first|(exfalso;omega)|skip))));(all_goals(conv=>whnf))
 all_goals(refine Gf rfl (?_:_=_);try simp only[AV.dat,Pn])
 all_goals
  simp only[A3,Ar,Av,B1,Du] at*
  first|(rw[LP f Aa];rfl)|(rw[EN f Aa Aa];rfl)|(rw[LQ f Aa Aa];rfl)
theorem Lo (b:List UInt8) (at' en:Nat) (g:at'≤en) (s:en≤b.length):((nxS b at' en).code=0→(nxS b at' en).x.at'=at'∧at'+2≤(nxS b at' en).x.body∧(nxS b at' en).x.body≤(nxS b at' en).x.stop∧(nxS b at' en).x.stop≤en∧(nxS b at' en).off=0)∧(nxS b at' en).code≤4∧(nxS b at' en).off≤en∧(nxS b at' en).x.c≤3∧(nxS b at' en).x.n≤30∧(nxS b at' en).x.stop≤en∧(nxS b at' en).x.body≤(nxS b at' en).x.stop:=by
 have d:=Kj ((b.drop at').take (en-at'))
 have a:((b.drop at').take (en-at')).length=en-at':=Af
 rw[a] at d
 unfold nxS
 generalize rhS ((b.drop at').take (en-at'))=h at d
 obtain⟨q,w,u,i,j,m,v⟩:=d
 by_cases e:h.code≠0
 ·rw[Aj e];simp only[ElR.bad,El.zero];omega
 rw[Ai e]
 by_cases f:en-at'<h.size+h.len
 ·rw[Aj f];simp only[ElR.bad,El.zero];omega
 grind
def Em (b:List UInt8):ElR:=if(nxS b 0 b.length).code=0∧(nxS b 0 b.length).x.stop<b.length then .bad 2 (nxS b 0 b.length).x.stop else nxS b 0 b.length
theorem Hj (b:List UInt8) (j:b.length≤1000000000):aC 69 [.d (By false b)] (erR (Em b)):=by
 have e:=nK b 0 b.length j Aa Aa
 have g:=Lo b 0 b.length Aa Aa
 unfold Em
 generalize w:nxS b 0 b.length=h at e g⊢
 obtain⟨u,z,v,m,q,s,y⟩:=g
 by_cases f:h.code=0
 ·by_cases i:h.x.stop<b.length
  ·rw[Aj ⟨f,i⟩]
   refine acQ 29 Tryz.func69 rfl rfl fun _ _ _=> ?_
   (repeat'((conv=>whnf);first|refine Ej ?_|refine Al e gvQ ?_|refine zF ?_|(refine NBr.mk (fun d=> ?_) (fun d=> ?_)<;>(have a:=d;(try simp only[A3,Ar,A9,An,Du] at a)<;>first|(exfalso;omega)|skip))));(all_goals(conv=>whnf))
   all_goals(refine Gf rfl (?_:_=_);try simp only[AV.dat,Pn])
   all_goals rfl
  ·rw[Ai (fun x=>i x.2)]
   refine acQ 29 Tryz.func69 rfl rfl fun _ _ _=> ?_
   (repeat'((conv=>whnf);first|refine Ej ?_|refine Al e gvQ ?_|refine zF ?_|(refine NBr.mk (fun d=> ?_) (fun d=> ?_)<;>(have a:=d;(try simp only[A3,Ar,A9,An,Du] at a)<;>first|(exfalso;omega)|skip))));(all_goals(conv=>whnf))
   all_goals(refine Gf rfl (?_:_=_);try simp only[AV.dat,Pn])
   all_goals rfl
 ·rw[Ai (fun x=>f x.1)]
  refine acQ 29 Tryz.func69 rfl rfl fun _ _ _=> ?_
  (repeat'((conv=>whnf);first|refine Ee ?_|refine Al e gvQ ?_|refine zF ?_|(refine NBr.mk (fun d=> ?_) (fun d=> ?_)<;>(have a:=d;(try simp only[A9,An,Du] at a)<;>first|(exfalso;omega)|skip))));(all_goals(conv=>whnf))
  all_goals(refine Gf rfl (?_:_=_);try simp only[AV.dat,Pn])
  all_goals rfl
def El.isB (e:El) (c n:Nat) (k:Bool):Bool:=e.c==c&&e.k==k&&e.n==n
theorem Qh (a b:Nat):((a:Int)==(b:Int))=(a==b):=by
 grind
theorem Fo (e:El) (c n:Nat) (k:Bool):aC 65 [elA e,iv c,bv k,iv n] (bv (e.isB c n k)):=by
 refine acQ 25 Tryz.func65 rfl rfl fun _ _ _=> ?_
 (repeat'((conv=>whnf);first|refine zY ?_|(refine NBr.mk (fun d=> ?_) (fun d=> ?_)<;>(have a:=d;(try simp only[A9,An,Du] at a)<;>first|(exfalso;omega)|skip))));(all_goals(conv=>whnf))
 all_goals(refine Gf rfl (?_:_=_);try simp only[AV.dat])
 all_goals
  simp only[Qh] at*
  simp only[El.isB, *]
  first|rfl|(simp;done)
def nL (a b:UInt8):Int:=if a.toNat<b.toNat then-1 else if b.toNat<a.toNat then 1 else 0
def Ss:List UInt8→List UInt8→Int
 |[],[]=>0
 |[],_::_=> -1
 |_::_,[]=>1
 |a::r,b::s=>if a.toNat<b.toNat then-1 else if b.toNat<a.toNat then 1 else Ss r s
theorem EO {a:List UInt8}:∀{i:Nat} {x y:UInt8},a[i]?=some x→b[i]?=some y→Ss (a.drop i) (b.drop i)=if x.toNat<y.toNat then-1 else if y.toNat<x.toNat then 1 else Ss (a.drop (i+1)) (b.drop (i+1)):=by
 intro i x y d g
 obtain⟨m,f⟩:=Ew.1 d
 obtain⟨j,e⟩:=Ew.1 g
 rw[A5 m,A5 j,f,e,Ss]
theorem xW (n:Nat):aC 260 [cv n] (bv false):=by
 refine acQ 6 Tryz.func260 rfl rfl fun _ _ _=> ?_
 (all_goals(conv=>whnf))
 all_goals(refine Gf rfl (?_:_=_);try simp only[AV.dat])
 all_goals simp
theorem LS (a b:UInt8):aC 195 [cv a.toNat,cv b.toNat] (iv (nL a b)):=by
 refine acQ 20 Tryz.func195 rfl rfl fun _ _ _=> ?_
 (repeat'((conv=>whnf);first|refine Ee ?_|refine Al (xW a.toNat) rfl ?_|refine Al (xW b.toNat) rfl ?_|(refine E7 (fun e d=> ?_) (fun e d=> ?_)<;>try(exfalso;omega))));(all_goals(conv=>whnf))
 all_goals(refine Gf rfl (?_:_=_);try simp only[AV.dat])
 all_goals
  simp only[A3,Ar] at*
  unfold nL
  first|(rw[Aj Aa])|(rw[Ai Aa,Aj Aa])|(rw[Ai Aa,Ai Aa])
theorem aV (a b:UInt8):aC 194 [cv a.toNat,cv b.toNat] (iv (nL a b)):=by
 refine acQ 8 Tryz.func194 rfl rfl fun _ _ _=> ?_
 (repeat'((conv=>whnf);refine Al (LS a b) rfl ?_));(all_goals(conv=>whnf))
 all_goals(refine Gf rfl (?_:_=_);try simp only[AV.dat])
 all_goals rfl
theorem LT (a b:List UInt8) (B:a.length≤1000000000) (E:b.length≤1000000000):aC 193 [.d (By false a),.d (By false b),.d (.fn 194 [])] (iv (Ss a b)):=by
 refine acQ 39 Tryz.func193 rfl rfl fun _ _ _=> ?_
 (all_goals(conv=>whnf))
 refine Fh (fun i:Nat=>i≤a.length∧i≤b.length∧Ss a b=Ss (a.drop i) (b.drop i)) (fun i=>a.length-i) (fun i=>⟨[(0,.d (By false a)),(1,.d (By false b)),(2,.d (.fn 194 [])),(6,iv 0),(11,.d (By false a)),(12,iv a.length),(13,iv i)],[],[]⟩) 0 ⟨Aa,Aa,rfl⟩ leQ ?_
 ·rintro i ⟨z,A,g⟩
  by_cases m:i<a.length
  ·obtain⟨x,q⟩:∃x,a[i]?=some x:=⟨_,Ev m⟩
   by_cases v:i<b.length
   ·obtain⟨y,s⟩:∃y,b[i]?=some y:=⟨_,Ev v⟩
    rw[EO q s] at g
    by_cases j:x.toNat<y.toNat
    ·have e:nL x y= -1:=Aj j
     have f:=aV x y
     rw[e] at f
     (repeat'((conv=>whnf);first|refine Ej ?_|refine NIdx.bytes q ?_|refine NIdx.bytes s ?_|refine Al f rfl ?_|(refine E7 (fun e d=> ?_) (fun e d=> ?_)<;>try(exfalso;omega))));(all_goals(conv=>whnf))
     all_goals(refine Gf rfl (?_:_=_);try simp only[AV.dat])
     all_goals(rw[g,Aj j])
    by_cases u:y.toNat<x.toNat
    ·have e:nL x y=1:=by unfold nL;rw[Ai j,Aj u]
     have f:=aV x y
     rw[e] at f
     (repeat'((conv=>whnf);first|refine Ej ?_|refine NIdx.bytes q ?_|refine NIdx.bytes s ?_|refine Al f rfl ?_|(refine E7 (fun e d=> ?_) (fun e d=> ?_)<;>try(exfalso;omega))));(all_goals(conv=>whnf))
     all_goals(refine Gf rfl (?_:_=_);try simp only[AV.dat])
     all_goals(rw[g,Ai j,Aj u])
    ·have e:nL x y=0:=by unfold nL;rw[Ai j,Ai u]
     have f:=aV x y
     rw[e] at f
     rw[Ai j,Ai u] at g
     (repeat'((conv=>whnf);first|refine Ee ?_|refine NIdx.bytes q ?_|refine NIdx.bytes s ?_|refine Al f rfl ?_|refine zI ?_|(refine E7 (fun e d=> ?_) (fun e d=> ?_)<;>try(exfalso;omega))));(all_goals(conv=>whnf))
     refine⟨i+1,⟨Aa,Aa,g⟩,Aa,?_⟩
     exact leQ
   ·obtain rfl:i=b.length:=by omega
    (repeat'((conv=>whnf);first|refine NIdx.bytes q ?_|(refine E7 (fun e d=> ?_) (fun e d=> ?_)<;>try(exfalso;omega))));(all_goals(conv=>whnf))
    all_goals(refine Gf rfl (?_:_=_);try simp only[AV.dat])
    all_goals
     rw[g,List.drop_length,A5 m,Ss]
  ·obtain rfl:i=a.length:=by omega
   (repeat'((conv=>whnf);(refine E7 (fun e d=> ?_) (fun e d=> ?_)<;>try(exfalso;omega))));(all_goals(conv=>whnf))
   all_goals(refine Gf rfl (?_:_=_);try simp only[AV.dat])
   all_goals
    rw[g,List.drop_length]
    simp only[A3,Ar] at*
   ·rw[A5 Aa,Ss]
   ·obtain w:b.length≤a.length:=by omega
    rw[List.drop_of_length_le w,Ss]
theorem VK (a b:List UInt8) (d:a.length≤1000000000) (e:b.length≤1000000000):aC 177 [.d (By false a),.d (By false b)] (iv (Ss a b)):=by
 refine acQ 8 Tryz.func177 rfl rfl fun _ _ _=> ?_
 (repeat'((conv=>whnf);refine Al (LT a b d e) gvQ ?_));(all_goals(conv=>whnf))
 all_goals(refine Gf rfl (?_:_=_);try simp only[AV.dat])
 all_goals rfl
def Rz (n:Nat):List UInt8:=if n<256 then [UInt8.ofNat n] else Rz (n/256)++[UInt8.ofNat (n%256)]
termination_by n
decreasing_by omega
theorem I8 (h:n<256):Rz n=[UInt8.ofNat n]:=by rw[Rz,Aj h]
theorem Qi (h:¬n<256):Rz n=Rz (n/256)++[UInt8.ofNat (n%256)]:=by rw[Rz,Ai h]
theorem St:∀(k n:Nat),n<256^(k+1)→1≤(Rz n).length∧(Rz n).length≤k+1
 |0,n,h=>by rw[I8 Aa];simp
 |k+1,n,h=>by
  by_cases a:n<256
  ·rw[I8 a];simp
  ·rw[Qi a]
   have:=St k (n/256) (by rw[Db] at h;omega)
   simp;omega
def N7 (n:Nat):List UInt8:=if n<128 then Rz n else UInt8.ofNat (128+(Rz n).length)::Rz n
theorem Q7 (x:UInt8):UInt8.ofNat x.toNat=x:=B8.1 (by simp_all)
theorem LU (x:UInt8) (m:x.toNat≠0):∀(k:Nat) (r:List UInt8),r.length=k→Rz (beV (x::r))=x::r∧1≤beV (x::r):=by
 intro k
 induction k with
 |zero=>
  intro r a
  rw[Cw] at a
  subst a
  have:=x.toNat_lt
  have d:beV [x]=x.toNat:=by simp[beV]
  rw[d,I8 Aa,Q7]
  exact⟨rfl,Aa⟩
 |succ k f=>
  intro r a
  obtain⟨s,b,rfl⟩:∃s b,r=s++[b]:=⟨r.dropLast,r.getLast (by intro h;simp[h] at a),(List.dropLast_concat_getLast _).symm⟩
  have i:s.length=k:=by simp at a;omega
  obtain⟨e,j⟩:=f s i
  have d:=b.toNat_lt
  have g:beV (x::(s++[b]))=beV (x::s)*256+b.toNat:=by rw[←Ak,aT]
  rw[g,Qi Aa,show(beV (x::s)*256+b.toNat)/256=beV (x::s) by omega,show(beV (x::s)*256+b.toNat)%256=b.toNat by omega,e,Q7]
  exact⟨Ab,Aa⟩
theorem fU:∀(k n:Nat),n<256^(k+1)→1≤n→∃y s,Rz n=y::s∧y.toNat≠0
 |0,n,h,h1=>⟨_,_,I8 Aa,by rw[B6];omega⟩
 |k+1,n,h,h1=>by
  by_cases a:n<256
  ·exact⟨_,_,I8 a,by rw[B6];omega⟩
  ·obtain⟨y,s,e,d⟩:=fU k (n/256) (by rw[Db] at h;omega) Aa
   exact⟨y,s++[UInt8.ofNat (n%256)],by rw[Qi a,e];rfl,d⟩
theorem aW (n:Nat) (h:n≤2147483647):1≤(N7 n).length∧(N7 n).length≤5:=by
 have:=St 3 n Aa
 grind [N7,D9]
def eM (x:UInt8) (c:List UInt8):List UInt8:=x::(N7 c.length++c)
def Uw (b:UInt8):Value:= .int .u8 b.toNat
def V6 (k:Nat) (e:TypeId) (l m:List UInt8) (tm tm':List (Nat×AV)):Prop:=
 ∀t u,lk t tm'=some u→(∃x,u= .d (.v x)∧lk t tm=some u)∨(u=Hp k e m∧lk t tm=some (Hp k e l))
theorem V6.nil {e:TypeId} {m:List UInt8} {tm:List (Nat×AV)}:V6 k e l m tm []:=fun t u h=>by cases h
theorem V6.v {s:Nat} {e:TypeId} {m:List UInt8} {tm r:List (Nat×AV)} {x:Value} (h:lk s tm=some (.d (.v x))) (d:V6 k e l m tm r):V6 k e l m tm ((s,.d (.v x))::r):=fun t u a=>by
 by_cases e:s=t
 ·subst e;rw[F1] at a;cases a;exact .inl ⟨x,rfl,h⟩
 ·rw[Gm _ _ e] at a;exact d t u a
theorem V6.own {k s:Nat} {e:TypeId} {l m:List UInt8} {tm r:List (Nat×AV)} (h:lk s tm=some (Hp k e l)) (d:V6 k e l m tm r):V6 k e l m tm ((s,Hp k e m)::r):=fun t u a=>by
 by_cases e:s=t
 ·subst e;rw[F1] at a;cases a;exact .inr ⟨rfl,h⟩
 ·rw[Gm _ _ e] at a;exact d t u a
theorem LV {B:Nat} {fp:Nat→Nat→Prop} {w:World} {g:Nat} (j:l.length≤c) (q:c≤maxLen) (z:B≤g) (m:∀i,i<l.length→fp g i) (y:∀i b,l[i]?=some b→w.cell? ⟨g,i,none⟩=some (Uw b)):Rd B fp w (.sl true l.length 1 (Fj l)) (.slice (some ⟨g,0,none⟩) l.length c):=by
 refine .sl (l.map Uw) j q (by rw[Mq];omega) (by rw[Mq,Ba]) (fun h=>by cases h) (fun u a=> ?_) (fun i d u f a=> ?_) (fun i u a=> ?_)
 ·obtain⟨b,-,rfl⟩:=Cl.1 a
  rfl
 ·rw[Q4,A8] at f
  rw[Bk,A8] at a
  obtain⟨b,s,rfl⟩:=f
  obtain⟨v,e,rfl⟩:=a
  rw[s] at e;cases e
  exact .v _
 grind
section
variable {P:Program} {C:Cx} {o:Oper} {σ:AS} {t:Nat}
theorem nM {X:Go.Shelf.Ren} (L:SlLaysE.n35 P X) {e:TypeId} {x:Operand} {ats:Array TypeId} {tm':List (Nat×AV)} (I:∀vs w,(callFunc (X.f 35) vs).run P w= .ok (.enter (X.f 35) vs) w) (ho:o.op= .call {callee:= .value (.func (X.f 35)),args:=#[x],argTypes:=ats}) (hd:o.dst=some t) (ht:t<C.N)
 (hx:σ.eval x=some (Hp k e l)) (hk:lk k σ.tk=some (l.length,1,e)) (h0:0<l.length) (hl:l.length≤1000000000) (hp:V6 k e l l.reverse σ.tm tm') (htt:lk t tm'=none):
 Fp P C o σ ⟨tm',[],[(k,l.reverse.length,1,e)]⟩:=by
 rw[List.length_reverse]
 rintro a w ⟨bm,gt,fp,d⟩ K Q hK
 have h1:=d.eval hx
 generalize hv:a.eval x=v at h1
 cases h1 with
 |own h1=>
  obtain⟨xs,hxs,O⟩:=(d.tk k _ _ _ hk).own
  have hby:=h1.bytes
  rcases O with⟨hvn,hn⟩|⟨g,U,cur,E,Y,y,W,V,hcs,htk⟩
  ·omega
  have hcell:∀i b,l[i]?=some b→w.cell? ⟨g,i,none⟩=some (Uw b):=fun i b M=>by
   obtain⟨a',c',e1,-,-,-,e2⟩:=hby
   obtain⟨b',o',e3,-,e4⟩:=e2 i (Uw b) (by rw[M7,M];rfl)
   grind
  have hH:Sort.Holds Uw w g 0 l.toArray:=fun j hj=>by
   have hj':j<l.length:=by simpa using hj
   refine⟨?_,frozen_of_row w g _ cur e y⟩
   grind
  have hR:=AnyE.slices_Reverse L Uw (fun _=>rfl) g 0 U l w hH Aa
  have R:(execOp a.eval o).run P w= .ok (.enter (X.f 35) #[gt k]) w:=by
   have z:∀f:FuncId,(Operand.func f:Operand)= .func f:=fun _=>rfl
   simp only[execOp,ho,resolve,Deferred.ofValue,Act.eval,invoke,Au,Bs,A6,I]
   simp[hv]
  unfold Oper.wp
  rw[R,Oper.upon_enter,E]
  refine hR.mono ?_
  rintro e' w' ⟨rfl,m,rfl⟩
  simp only[]
  rw[hd]
  refine hK _ _ ⟨⟨bm.m,C.z0⟩,gt,fun b o'=>(C.fp0 b o'∨C.z0 b o')∨(b=g∧o'<l.length),?_⟩
  have hgs:g<w.heap.size:=(Br.1 y).1
  have T:∀b,b≠g→(Sort.putRow Uw (Sort.ahead w m) g 0 l.reverse.toArray).heap[b]?=w.heap[b]?:=fun b M=>by
   simp only[Sort.putRow,Sort.mapBlock,Array.getElem?_modify,Sort.heap_ahead]
   rw[Ai (Ne.symm M)]
  have J:(Sort.putRow Uw (Sort.ahead w m) g 0 l.reverse.toArray).heap[g]?=some (.cells (Sort.putCells Uw 0 l.reverse.toArray cur) e (0,0)):=by
   simp only[Sort.putRow,Sort.mapBlock,Array.getElem?_modify,Sort.heap_ahead,y,if_true]
   rfl
  have Z:∀i b,l.reverse[i]?=some b→(Sort.putRow Uw (Sort.ahead w m) g 0 l.reverse.toArray).cell? ⟨g,i,none⟩=some (Uw b):=fun i b M=>by
   have hi:i<l.reverse.length:=(Ew.1 M).1
   have:=Sort.cell?_putRow Uw (Sort.ahead w m) g 0 l.toArray l.reverse.toArray (Sort.holds_ahead Uw w m g 0 _ hH) Ab i (by simpa using hi)
   grind
  have B:l.reverse.length=l.length:=Ab
  have hRd:Rd C.W.heap.size (fun b o'=>(C.fp0 b o'∨C.z0 b o')∨(b=g∧o'<l.length)) (Sort.putRow Uw (Sort.ahead w m) g 0 l.reverse.toArray) (.sl true l.reverse.length 1 (Fj l.reverse)) (gt k):=by
   have:=LV (l:=l.reverse) (fp:=fun b o'=>(C.fp0 b o'∨C.z0 b o')∨(b=g∧o'<l.length)) (by rw[B];exact W) V Y (fun i hi=> .inr ⟨rfl,by rw[B] at hi;exact hi⟩) Z
   rw[E]
   rw[B] at this⊢
   exact this
  refine{sz:=by simp[Act.put,d.sz],nN:=d.nN,gd:=d.gd,za:=fun _ _ x=>x,zb:=fun _ _ x=> .inl x,zf:=fun _ _ x=> .inl (.inr x),ztk:=fun k' x q g' H o' hz=> ?_,df:=d.df,tm:=fun s u hu=> ?_,bx:=fun k' cs q=>(by cases q),bxi:=fun k1 k2 c1 c2 A=>(by cases A),tk:=fun k' n' sz' e' q=> ?_,tki:=fun k1 k2 x1 x2 A F _ _=> ?_,tkb:=fun k1 k2 x1 c1 A F=>(by cases F),fpb:=fun b o' z=> ?_,fp0:=fun b o' z=> .inl (.inl z),fpB:=d.fpB,bel:= ?_}
  ·by_cases N:k=k'
   ·subst N
    exact d.ztk k _ hk g' H o' (d.za g' o' hz)
   ·rw[Gm _ _ N] at q;cases q
  ·have hst:s≠t:=fun h=>by subst h;rw[htt] at hu;cases hu
   rcases hp s u hu with⟨x0,rfl,h2⟩|⟨rfl,h2⟩
   ·obtain⟨v0,h3,h4⟩:=d.tm s _ h2
    refine⟨v0,by rw[←h3];simp only[Cx.val,Act.put];grind,?_⟩
    rw[h4.val];exact .d (.v _)
   ·obtain⟨v0,h3,h4⟩:=d.tm s _ h2
    refine⟨v0,by rw[←h3];simp only[Cx.val,Act.put];grind,?_⟩
    cases h4 with
    |own h4=>exact .own hRd
  ·by_cases N:k=k'
   ·subst N
    rw[F1] at q
    cases q
    refine⟨⟨(Sort.putCells Uw 0 l.reverse.toArray cur).toList.take (l.length*1),?_,.inr ⟨g,U,_,E,Y,J,W,V,?_,rfl⟩⟩,?_⟩
    ·grind [Ec,Sort.putCells]
    ·simp[Sort.putCells,hcs]
    ·intro g' H o' ho'
     rw[E] at H
     cases H
     rintro((z|z)|⟨-,z⟩)
     ·have h9:g<C.W.heap.size:=d.fpB _ _ z
      omega
     ·exact d.ztk k _ hk g (by rw[E];rfl) _ (d.za _ _ z)
     ·omega
   ·rw[Gm _ _ N] at q;cases q
  ·by_cases e1:k=k1
   ·by_cases e2:k=k2
    ·exact e1.symm.trans e2
    ·rw[Gm _ _ e2] at F;cases F
   ·rw[Gm _ _ e1] at A;cases A
  ·rcases z with(z|z)|⟨rfl,z⟩
   ·exact⟨.inl z,by have:=d.fpB _ _ z;grind⟩
   ·have:=d.fpb _ _ (d.zf _ _ (d.za _ _ z))
    simp_all
   grind
  ·refine d.bel.trans ⟨rfl,rfl,rfl,by simp_all,fun b M=>T b Aa⟩
end
def nO (n:Nat):List UInt8:=UInt8.ofNat n::(if n<256 then [] else nO (n/256))
termination_by n
decreasing_by omega
theorem nP:∀n,(nO n).reverse=Rz n:=by
 intro n
 induction n using Nat.strongRecOn with
 |ind n a=>
  rw[nO]
  by_cases h:n<256
  ·rw[Aj h,I8 h];rfl
  ·rw[Ai h,Qi h,List.reverse_cons,a (n/256) Aa]
   congr 2
   exact B8.1 (by rw[B6,B6];omega)
theorem VL (n:Nat) {m:Int} {b:Nat} (d:min m.toNat b=k):(n:Int).fdiv (2^(min m.toNat b))=((n/2^k:Nat):Int):=by
 have a:(0:Int)≤2^k:=Int.le_of_lt (Int.pow_pos Ae)
 rw[d,Int.fdiv_eq_ediv_of_nonneg _ a,Int.natCast_ediv,Int.natCast_pow]
 rfl
def LW (q:Nat):List UInt8:=if q=0 then [] else nO q
theorem fV (n:Nat):nO n=UInt8.ofNat n::LW (n/256):=by
 rw[nO,LW]
 by_cases h:n<256
 ·rw[Aj h,Aj Aa]
 ·rw[Ai h,Ai Aa]
theorem VM (n:Nat) (u:n≤18446744073709551615):aC 168 [.d (.v (.int .u64 (n:Int)))] (Hp 0 5 (Rz n)):=by
 have e:(nO n).length≤8:=by rw[←List.length_reverse,nP];exact(St 7 n Aa).2
 refine acQ 21 Tryz.func168 rfl rfl fun _ _ _=> ?_
 (repeat'((conv=>whnf);first|(with_reducible refine V2 ?_)|refine zI ?_|refine Fv (by first|decide|omega|(simp only[D9,Ax];omega)) ?_));(all_goals(conv=>whnf))
 refine Fh (fun p:Nat×List UInt8=>p.1≤18446744073709551615∧0<p.2.length∧p.2++LW p.1=nO n) (fun p=>p.1) (fun p=>⟨[(0,.d (.v (.int .u64 (p.1:Int)))),(2,Ff),(3,Hp 6 5 p.2)],[],[(6,(p.2.length,1,5))]⟩) (n/2^8,[UInt8.ofNat n]) ⟨by simp only[];omega,Ab,(by rw[fV n];rfl)⟩ leQ ?_
 ·rintro⟨q,a⟩ ⟨s,j,d⟩
  simp only[] at s j d
  by_cases i:q=0
  ·subst i
   rw[LW,Aj rfl,Am] at d
   have f:a.length≤8:=by rw[d];exact e
   (repeat'((conv=>whnf);refine Ee ?_));(all_goals(conv=>whnf))
   refine Cs (nM (l:=a) (tm':=[(2,Ff),(3,Hp 6 5 a.reverse)]) Tryz.laysRev (P2 Tryz.func167 Ac rfl) rfl rfl (ltN rfl) rfl rfl j Aa (.v rfl (.own rfl .nil)) rfl) ?_
   (all_goals(conv=>whnf))
   rw[←nP,←d]
   exact zE
  ·rw[LW,Ai i,fV] at d
   have f:a.length≤7:=by
    have:=Cf List.length d
    simp only[En,D9] at this
    omega
   (repeat'((conv=>whnf);first|(with_reducible refine V2 ?_)|refine Tk (_) ?_|refine zI ?_|refine Fv (by first|decide|omega|(simp only[D9,Ax];omega)) ?_|(refine E7 (fun m g=> ?_) (fun m g=> ?_)<;>try(exfalso;omega))));(all_goals(conv=>whnf))
   refine⟨(q/2^8,a++[UInt8.ofNat q]),⟨by simp only[];omega,Ab,by rw[Bt];exact d⟩,by simp only[];omega,?_⟩
   exact leQ
theorem LX (n:Nat) (T:n≤1000000000):aC 134 [Ff,iv n] (Hp 0 5 []):=by
 refine⟨P2 Tryz.func134 Ac rfl,fun w fp0 E vs _ B F m=> ?_⟩
 match vs,m with
 |[v1,v2],⟨a1,a2,_⟩=>
  rw[a1.val,a2.val]
  by_cases h:n=0
  ·subst h
   refine(Any8.slices_Grow_room Tryz.laysGrow none 0 0 0 w (At _) Aa Aa Aa).mono ?_
   rintro e w' ⟨rfl,rfl⟩
   exact⟨_,_,rfl,rfl,Bq _ _,rfl,fp0,fun _=> .slice none 0 0,E,fun b o s=>⟨.inl s,B b o s⟩,.own (Ll true 1),fun n' A J z=>by cases z;exact⟨⟨⟨[],World.ownsRow_nil _ _ _ _⟩,fun g q=>by cases q⟩,fun g q=>by cases q⟩,fun _ _ x=>x,F,fun _ _ x=> .inl x⟩
  ·have N:TyOk Tryz.prog 5 _ _ 1 1:=VI rfl
   obtain⟨M,O,I,R,L⟩:=N.inf
   refine(Any8.slices_Grow_grow Tryz.laysGrow M _ O I Aa none 0 0 n [] w (At _) Aa (by rw[L];omega) Aa Ab (fun _=>rfl) (fun a H=>by cases H)).mono ?_
   rintro e w' ⟨rfl,rfl⟩
   have j:=grownCap_le_maxLen w (0+n) 0 5 (by unfold maxLen;omega)
   have K:0+n≤grownCap w (0+n) 0 5:=grownCap_ge w _ _ _
   have f:Below w.heap.size w (w.drew.alloc (.cells (([]:List Value).toArray++Builtin.zeroCells (Value.int .u8 0).cells (0+n-0)++Builtin.zeroCells (Value.int .u8 0).cells (grownCap w (0+n) 0 5-(0+n))) 5)):=(Below.drew (Bq _ _)).alloc (At _) _
   have v:=heap_alloc_new w.drew (.cells (([]:List Value).toArray++Builtin.zeroCells (Value.int .u8 0).cells (0+n-0)++Builtin.zeroCells (Value.int .u8 0).cells (grownCap w (0+n) 0 5-(0+n))) 5)
   refine⟨_,_,rfl,rfl,f,rfl,fp0,fun _=> .slice (some ⟨w.heap.size,0,none⟩) 0 (grownCap w (0+n) 0 5),E,fun b o s=>⟨.inl s,Ci (B b o s) f.size⟩,.own (.sl [] (Nat.zero_le _) j rfl rfl (fun h=>by cases h) (fun u y=>by simp at y) (fun i d u _ y=>by simp at y) (fun i u y=>by simp at y)),fun n' A J z=> ?_,fun _ _ x=>x,F,fun _ _ x=> .inl x⟩
   cases z
   refine⟨?_,fun g q o Q=>by cases q;grind⟩
   refine⟨⟨[],Ab,.inr ⟨w.heap.size,_,_,rfl,At _,v,Nat.zero_le _,j,?_,Ab⟩⟩,fun g q o _ s=> ?_⟩
   ·grind [Builtin.zeroCells,Value.cells,Array.size_append,List.size_toArray,List.length_nil]
   ·cases q
    grind
def Pp (p:List UInt8):List D:=[By false p]
theorem K3 {a:Type} {f:a→List D} (e:∀x,Ef (f x)=f x) (t:Bool) (sz:Nat) (l:List a):(J5 t sz f l).un=J5 false sz f l:=by
 have:∀l:List a,Ef (l.flatMap f)=l.flatMap f:=fun l=>by
  induction l with
  |nil=>rfl
  |cons x r d=>
   rw[A4,I1,Cp,←I1,←I1,e,d]
 unfold J5
 rw[D.un,this]
def I9 (ps:List (List UInt8)):D:=J5 false 1 Pp ps
theorem Ea (ps:List (List UInt8)):(I9 ps).un=I9 ps:=K3 (fun x=>by simp only[Pp,Ef,D7]) false 1 ps
theorem fW {i:Nat} {p:List UInt8} (h:ps[i]?=some p):(ps.take (i+1)).flatten=(ps.take i).flatten++p:=by
 obtain⟨a,d⟩:=Ew.1 h
 rw[B7 a,d,List.flatten_append];simp
theorem xX (ps:List (List UInt8)) (i:Nat):(ps.take i).flatten.length≤ps.flatten.length:=by
 conv=>rhs;rw[←C5 i ps,List.flatten_append,En]
 omega
theorem Ou (ps:List (List UInt8)) (q:ps.flatten.length≤1000000000) (u:ps.length≤1000000000):aC 89 [.d (I9 ps)] (Hp 0 5 ps.flatten):=by
 refine acQ 36 Tryz.func89 rfl rfl fun _ _ _=> ?_
 (all_goals(conv=>whnf))
 refine Fh (fun i:Nat=>i≤ps.length) (fun i=>ps.length-i) (fun i=>⟨[(0,.d (I9 ps)),(2,Ff),(3,iv (ps.take i).flatten.length),(9,.d (I9 ps)),(10,iv ps.length),(11,iv i)],[],[]⟩) 0 Aa leQ ?_
 ·intro i s
  by_cases d:i<ps.length
  ·obtain⟨p,e⟩:∃p,ps[i]?=some p:=⟨_,Ev d⟩
   have j:=fW e
   have m:=xX ps (i+1)
   have g:(ps.take (i+1)).flatten.length=(ps.take i).flatten.length+p.length:=by rw[j,En]
   (repeat'((conv=>whnf);first|refine Ee ?_|refine NIdx.tab (fun _=>rfl) e ?_|refine zI ?_|(refine E7 (fun f a=> ?_) (fun f a=> ?_)<;>try(exfalso;omega))));(all_goals(conv=>whnf))
   refine⟨i+1,Aa,Aa,?_⟩
   rw[g]
   exact leQ
  ·obtain rfl:i=ps.length:=by omega
   rw[Bv]
   (repeat'((conv=>whnf);first|refine Al (LX ps.flatten.length q) rfl ?_|(refine E7 (fun f a=> ?_) (fun f a=> ?_)<;>try(exfalso;omega))));(all_goals(conv=>whnf))
   refine Fh (fun i:Nat=>i≤ps.length) (fun i=>ps.length-i) (fun i=>⟨[(0,.d (I9 ps)),(2,Ff),(6,Hp 24 5 (ps.take i).flatten),(25,.d (I9 ps)),(26,iv ps.length),(27,iv i)],[],[(24,((ps.take i).flatten.length,1,5))]⟩) 0 Aa leQ ?_
   ·intro i s
    by_cases d:i<ps.length
    ·obtain⟨p,e⟩:∃p,ps[i]?=some p:=⟨_,Ev d⟩
     have j:=fW e
     have m:=xX ps (i+1)
     have g:(ps.take (i+1)).flatten.length=(ps.take i).flatten.length+p.length:=by rw[j,En]
     (repeat'((conv=>whnf);first|refine NIdx.tab (fun _=>rfl) e ?_|refine zI ?_|(with_reducible refine NApp.bytes ?_)|(refine E7 (fun f a=> ?_) (fun f a=> ?_)<;>try(exfalso;omega))));(all_goals(conv=>whnf))
     refine⟨i+1,Aa,Aa,?_⟩
     rw[j]
     exact leQ
    ·obtain rfl:i=ps.length:=by omega
     rw[Bv]
     (repeat'((conv=>whnf);refine He asP ?_));(all_goals(conv=>whnf))
     all_goals exact zE
     all_goals rfl
theorem Gq (l:List UInt8) (f:l.length≤1000000000):aC 67 [.d (By false l)] (.d (By true l)):=by
 refine acQ 8 Tryz.func67 rfl rfl fun _ _ _=> ?_
 (repeat'((conv=>whnf);first|(refine NStep.some (tH (sz:=1) rfl rfl (ltN rfl) (Eg.ty rfl).u rfl rfl) ?_;rintro _ ⟨b,a,rfl⟩)|(with_reducible refine NApp.bytes0 ?_)|refine NBr.mk (fun d=> ?_) (fun d=> ?_)));(all_goals(conv=>whnf))
 ·have e:l=[]:=Cw.1 (a d)
  subst e
  exact zE
 ·exact zE
def Ei (c n:Nat) (k:Bool) (l:List UInt8):List UInt8:=eM (UInt8.ofNat (idN c k n)) l
theorem LY (d:c≤3) (a:n≤30):V4 (c:Int) (n:Int)=false:=by
 unfold V4
 simp;omega
theorem LZ (k:Bool) (d:c≤3) (a:n≤30):idN c k n<256:=by
 unfold idN
 cases k<;>simp<;>omega
theorem EP (c n:Nat) (k:Bool) (a:c≤3) (d:n≤30):aC 135 [iv c,bv k,iv n] (.tup [cv (UInt8.ofNat (idN c k n)).toNat,iv 0]):=by
 have:=LL k (LY a d)
 have e:=LZ k a d
 rw[show(UInt8.ofNat (idN c k n)).toNat=idN c k n by rw[B6];omega]
 exact this
theorem VN (n:Nat) (f:n≤2147483647):aC 136 [iv n] (.tup [Hp 0 5 (N7 n),iv 0]):=by
 have e:=VM n Aa
 have g:=St 3 n Aa
 by_cases h:n<128
 ·rw[N7,Aj h]
  refine acQ 24 Tryz.func136 rfl rfl fun _ _ _=> ?_
  (repeat'((conv=>whnf);first|refine Ee ?_|refine Al e rfl ?_|refine zI ?_|(refine E7 (fun d a=> ?_) (fun d a=> ?_)<;>try(exfalso;omega))|exact zE))
  all_goals rfl
 ·rw[N7,Ai h]
  refine acQ 24 Tryz.func136 rfl rfl fun _ _ _=> ?_
  (repeat'((conv=>whnf);first|refine Ee ?_|refine Al e rfl ?_|(with_reducible refine fR (128+(Rz n).length) ?_)|refine LI ([UInt8.ofNat (128+(Rz n).length)]) ?_|refine zI ?_|(refine E7 (fun d a=> ?_) (fun d a=> ?_)<;>try(exfalso;omega))|exact zE))
theorem Tl (h:p:=by first|rfl|(simp only[D8,AV.ren,AV.give,D.un,Ef,D7,D6,Ap,Am,Ak,Ea];first|done|rfl)):p:=h
theorem VO (c n:Nat) (k:Bool) (l:List UInt8) (f:c≤3) (d:n≤30) (j:l.length≤900000000):aC 90 [iv c,bv k,iv n,.d (By false l)] (.tup [Hp 0 5 (Ei c n k l),iv 0]):=by
 have e:=EP c n k f d
 have i:=VN l.length Aa
 have m:=aW l.length Aa
 have g:[[UInt8.ofNat (idN c k n)],N7 l.length,l].flatten=Ei c n k l:=by simp[Ei,eM]
 have a:=Ou [[UInt8.ofNat (idN c k n)],N7 l.length,l] Af Ab
 rw[g] at a
 refine acQ 38 Tryz.func90 rfl rfl fun _ _ _=> ?_
 (repeat'((conv=>whnf);first|refine Ee ?_|refine Al e rfl ?_|refine Al i rfl ?_|refine Al a Tl ?_|exact zE))
 all_goals rfl
theorem xY (e:El):Ef (elC e)=elC e:=rfl
theorem Ov (c n:Nat) (k:Bool) (ps:List (List UInt8)) (i:c≤3) (d:n≤30) (f:ps.flatten.length≤900000000) (a:ps.length≤1000000000):aC 33 [iv c,bv k,iv n,.d (I9 ps)] (.tup [Hp 0 5 (Ei c n k ps.flatten),iv 0]):=by
 have e:=Ou ps Aa a
 have g:=VO c n k ps.flatten i d f
 refine acQ 18 Tryz.func33 rfl rfl fun _ _ _=> ?_
 (repeat'((conv=>whnf);first|refine Al e Tl ?_|refine Al g Tl ?_|exact zE))
 all_goals rfl
theorem L8 (ps:List (List UInt8)) (d:ps.flatten.length≤900000000) (a:ps.length≤1000000000):aC 88 [.d (I9 ps)] (.tup [Hp 0 5 (Ei 0 16 true ps.flatten),iv 0]):=by
 have e:=Ov 0 16 true ps Aa Aa d a
 refine acQ 8 Tryz.func88 rfl rfl fun _ _ _=> ?_
 (repeat'((conv=>whnf);refine Al e Tl ?_));(all_goals(conv=>whnf))
 all_goals exact zE
 all_goals rfl
structure LR where
 l:List El
 code:Nat
 off:Nat
def Ii (b:List UInt8) (en:Nat):Nat→Nat→LR
 |0,_=>⟨[],0,0⟩
 |f+1,at'=>if at'<en then
   if(nxS b at' en).code≠0 then⟨[],(nxS b at' en).code,(nxS b at' en).off⟩
   else if(Ii b en f (nxS b at' en).x.stop).code≠0 then Ii b en f (nxS b at' en).x.stop
   else⟨(nxS b at' en).x::(Ii b en f (nxS b at' en).x.stop).l,0,0⟩
  else⟨[],0,0⟩
def F7 (b:List UInt8) (frm en:Nat):LR:=Ii b en (en-frm) frm
theorem uD (b:List UInt8) (en:Nat) (d:en≤b.length):∀(f g at':Nat),en-at'≤f→f≤g→Ii b en g at'=Ii b en f at':=by
 intro f
 induction f with
 |zero=>
  intro g at' i m
  cases g with
  |zero=>rfl
  |succ g=>
   conv=>lhs;rw[Ii,Ai Aa]
   rfl
 |succ f q=>
  intro g at' i m
  obtain⟨g,rfl⟩:∃j,g=j+1:=⟨g-1,Aa⟩
  rw[Ii,Ii]
  by_cases a:at'<en
  ·rw[Aj a,Aj a]
   by_cases e:(nxS b at' en).code≠0
   ·rw[Aj e,Aj e]
   ·have s:=(Lo b at' en Aa d).1 Aa
    grind
  ·rw[Ai a,Ai a]
theorem MA (b:List UInt8) (en:Nat):∀(f at':Nat),(Ii b en f at').code=0→Ii b en f at'=⟨(Ii b en f at').l,0,0⟩:=by
 intro f
 induction f with
 |zero=>intro at' _;rfl
 |succ f a=>
  intro at' h
  rw[Ii] at h⊢
  grind
theorem Xt (h:¬at'<en):F7 b at' en=⟨[],0,0⟩:=by
 rw[F7,show en-at'=0 by omega];rfl
theorem fX (h:at'<en) (a:(nxS b at' en).code≠0):F7 b at' en=⟨[],(nxS b at' en).code,(nxS b at' en).off⟩:=by
 obtain⟨f,d⟩:∃f,en-at'=f+1:=⟨en-at'-1,Aa⟩
 rw[F7,d,Ii,Aj h,Aj a]
theorem Ux (a:en≤b.length) (h:at'<en) (d:(nxS b at' en).code=0):F7 b at' en=if(F7 b (nxS b at' en).x.stop en).code≠0 then F7 b (nxS b at' en).x.stop en else⟨(nxS b at' en).x::(F7 b (nxS b at' en).x.stop en).l,0,0⟩:=by
 obtain⟨f,g⟩:∃f,en-at'=f+1:=⟨en-at'-1,Aa⟩
 have i:=(Lo b at' en Aa a).1 d
 have e:Ii b en f (nxS b at' en).x.stop=F7 b (nxS b at' en).x.stop en:=uD b en a _ _ _ (At _) Aa
 rw[show F7 b at' en=Ii b en (f+1) at' by rw[F7,g],Ii,Aj h,Ai Aa,e]
def Gw (l:List El):D:=J5 true 6 elC l
theorem Ep (l:List El):(Gw l).un=J5 false 6 elC l:=K3 xY true 6 l
theorem Eo (l:List El):(J5 false 6 elC l).un=J5 false 6 elC l:=K3 xY false 6 l
def lrA (r:LR):AV:=if r.code≠0 then .tup [Ff,erA r.code r.off] else .tup [.d (Gw r.l),erA 0 0]
theorem V7 (b:List UInt8) (frm en:Nat) (w:b.length≤1000000000) (v:frm≤en) (s:en≤b.length):aC 107 [.d (By false b),iv frm,iv en] (lrA (F7 b frm en)):=by
 refine acQ 49 Tryz.func107 rfl rfl fun _ _ _=> ?_
 (repeat'((conv=>whnf);first|refine Ee ?_|(refine E7 (fun d a=> ?_) (fun d a=> ?_)<;>try(exfalso;omega))));(all_goals(conv=>whnf))
 refine F2 [.s 8 6 110] (fun p:Nat×List El=>p.1≤en∧p.2.length≤p.1∧(F7 b frm en=if(F7 b p.1 en).code≠0 then F7 b p.1 en else⟨p.2++(F7 b p.1 en).l,0,0⟩)) (fun p=>en-p.1) (fun p=>⟨[(0,.d (By false b)),(2,iv en),(6,Ff),(7,.ptr 7 0),(8,Fy 8 6 110 elC p.2),(9,iv p.1)],[(7,[iv 0,iv 0])],[(8,(p.2.length,6,110))]⟩) (frm,[]) ⟨v,Ab,?_⟩ ?_ ?_
 ·show F7 b frm en=if(F7 b frm en).code≠0 then F7 b frm en else⟨[]++(F7 b frm en).l,0,0⟩
  by_cases h:(F7 b frm en).code≠0
  ·rw[Aj h]
  ·rw[Ai h]
   exact MA b en _ _ (As.1 h)
 ·exact leQ
 ·rintro⟨at',q⟩ ⟨f,i,e⟩
  simp only[] at f i e
  by_cases m:at'<en
  ·have u:=nK b at' en w f s
   have y:=Lo b at' en f s
   by_cases g:(nxS b at' en).code=0
   ·obtain⟨A,z,E,F,B⟩:=y.1 g
    rw[Ux s m g] at e
    (repeat'((conv=>whnf);first|refine Al u gvQ ?_|refine E4 elC (nxS b at' en).x ?_|(refine E7 (fun d a=> ?_) (fun d a=> ?_)<;>try(exfalso;omega))|(refine H2 (fun d a=> ?_) (fun d a=> ?_)<;>try(exfalso;omega))));(all_goals(conv=>whnf))
    refine⟨((nxS b at' en).x.stop,q++[(nxS b at' en).x]),⟨by simp only[];omega,Af,?_⟩,by simp only[];omega,?_⟩
    ·rw[e]
     by_cases j:(F7 b (nxS b at' en).x.stop en).code≠0
     ·rw[Aj j,Aj j,Aj j]
     ·rw[Ai j,Ai j,Ai Ab]
      simp
    ·exact leQ
   ·rw[fX m g,Aj g] at e
    (repeat'((conv=>whnf);first|refine Al u gvQ ?_|refine zF ?_|(refine E7 (fun d a=> ?_) (fun d a=> ?_)<;>try(exfalso;omega))|(refine H2 (fun d a=> ?_) (fun d a=> ?_)<;>try(exfalso;omega))));(all_goals(conv=>whnf))
    all_goals(rw[e,lrA,Aj g];exact zE)
  ·rw[Xt m,Ai Ab] at e
   simp only[Am] at e
   (repeat'((conv=>whnf);(refine E7 (fun d a=> ?_) (fun d a=> ?_)<;>try(exfalso;omega))));(all_goals(conv=>whnf))
   all_goals(rw[e,lrA,Ai Ab];exact zE)
theorem MB (a:en≤b.length):∀(f at':Nat) (x:El),x∈(Ii b en f at').l→at'≤x.at'∧x.at'+2≤x.body∧x.body≤x.stop∧x.stop≤en∧x.c≤3∧x.n≤30:=by
 intro f
 induction f with
 |zero=>intro at' x h;simp[Ii] at h
 |succ f e=>
  intro at' x h
  rw[Ii] at h
  by_cases d:at'<en
  ·rw[Aj d] at h
   have g:=Lo b at' en Aa a
   grind
  ·rw[Ai d] at h;simp at h
theorem V8 {frm:Nat} (a:en≤b.length) {x:El} (h:x∈(F7 b frm en).l):frm≤x.at'∧x.at'+2≤x.body∧x.body≤x.stop∧x.stop≤en∧x.c≤3∧x.n≤30:=MB a _ _ x h
theorem Tn (a:en≤b.length):∀(f at':Nat),(Ii b en f at').l.length≤en-at':=by
 intro f
 induction f with
 |zero=>intro at';simp[Ii]
 |succ f e=>
  intro at'
  rw[Ii]
  by_cases d:at'<en
  ·rw[Aj d]
   have g:=Lo b at' en Aa a
   grind
  ·rw[Ai d];simp
theorem Fa (b:List UInt8):((Em b).code=0→(Em b).x.at'=0∧2≤(Em b).x.body∧(Em b).x.body≤(Em b).x.stop∧(Em b).x.stop=b.length∧(Em b).off=0)∧(Em b).code≤4∧(Em b).off≤b.length∧(Em b).x.c≤3∧(Em b).x.n≤30∧(Em b).x.stop≤b.length∧(Em b).x.body≤(Em b).x.stop:=by
 have a:=Lo b 0 b.length Aa Aa
 unfold Em
 by_cases h:(nxS b 0 b.length).code=0∧(nxS b 0 b.length).x.stop<b.length
 ·rw[Aj h]
  simp only[ElR.bad,El.zero]
  omega
 ·rw[Ai h]
  omega
def Dn (b:List UInt8) (c n:Nat):LR:=
 if(Em b).code≠0 then⟨[],(Em b).code,(Em b).off⟩ else if(Em b).x.isB c n true=false then⟨[],3,0⟩ else F7 b (Em b).x.body (Em b).x.stop
theorem Fc (b:List UInt8) (c n:Nat) (s:b.length≤1000000000):aC 49 [.d (By false b),iv c,iv n] (lrA (Dn b c n)):=by
 have j:=Hj b s
 have u:=Fa b
 by_cases m:(Em b).code=0
 ·obtain⟨z,w,v,A,y⟩:=u.1 m
  have f:=Fo (Em b).x c n true
  by_cases g:(Em b).x.isB c n true=false
  ·have e:Dn b c n=⟨[],3,0⟩:=by rw[Dn,Ai Aa,Aj g]
   rw[g] at f
   rw[e]
   refine acQ 33 Tryz.func49 rfl rfl fun _ _ _=> ?_
   (repeat'((conv=>whnf);first|refine Ej ?_|refine Al j gvQ ?_|refine Al f rfl ?_|(refine H2 (fun d a=> ?_) (fun d a=> ?_)<;>try(exfalso;omega))|exact zE))
   all_goals rfl
  ·have e:Dn b c n=F7 b (Em b).x.body (Em b).x.stop:=by rw[Dn,Ai Aa,Ai g]
   have i:=V7 b (Em b).x.body (Em b).x.stop s v Aa
   rw[Bool.not_eq_false] at g
   rw[g] at f
   rw[e]
   by_cases q:(F7 b (Em b).x.body (Em b).x.stop).code≠0
   ·rw[lrA,Aj q] at i⊢
    refine acQ 33 Tryz.func49 rfl rfl fun _ _ _=> ?_
    (repeat'((conv=>whnf);first|refine Ee ?_|refine Al j gvQ ?_|refine Al f rfl ?_|refine Al i gvQ ?_|(refine H2 (fun d a=> ?_) (fun d a=> ?_)<;>try(exfalso;omega))|exact zE))
    all_goals rfl
   ·rw[lrA,Ai q] at i⊢
    refine acQ 33 Tryz.func49 rfl rfl fun _ _ _=> ?_
    (repeat'((conv=>whnf);first|refine Ee ?_|refine Al j gvQ ?_|refine Al f rfl ?_|refine Al i gvQ ?_|(refine H2 (fun d a=> ?_) (fun d a=> ?_)<;>try(exfalso;omega))|exact zE))
    all_goals rfl
 ·have e:Dn b c n=⟨[],(Em b).code,(Em b).off⟩:=by rw[Dn,Aj m]
  rw[e,lrA,Aj m]
  refine acQ 33 Tryz.func49 rfl rfl fun _ _ _=> ?_
  (repeat'((conv=>whnf);first|refine Al j gvQ ?_|refine zF ?_|(refine H2 (fun d a=> ?_) (fun d a=> ?_)<;>try(exfalso;omega))|exact zE))
  all_goals rfl
def Mw:List (List UInt8)→Bool
 |[]=>true
 |[_]=>true
 |a::b::r=>decide (Ss a b<0)&&Mw (b::r)
theorem EQ (h:ps.length≤1):Mw ps=true:=by
 match ps,h with
 |[],_=>rfl
 |[_],_=>rfl
theorem MC {i:Nat} {a:List UInt8} (d:ps[i]?=some a) (g:ps[i+1]?=some b):Mw (ps.drop i)=(decide (Ss a b<0)&&Mw (ps.drop (i+1))):=by
 obtain⟨m,f⟩:=Ew.1 d
 obtain⟨j,e⟩:=Ew.1 g
 rw[A5 m,A5 j,f,e,Mw]
theorem MD (h:p:=by first|rfl|(simp only[D8,AV.ren,AV.give,D.un,Ef,D7,D6,Ap,Am,Ak,Ea];first|done|rfl)):p:=h
theorem Su (ps:List (List UInt8)) (A:ps.length≤1000000000) (w:∀p∈ps,p.length≤1000000000):aC 149 [.d (I9 ps)] (bv (Mw ps)):=by
 refine acQ 25 Tryz.func149 rfl rfl fun _ _ _=> ?_
 (all_goals(conv=>whnf))
 refine Fh (fun i:Nat=>i≤ps.length∧Mw ps=Mw (ps.drop (i-1))) (fun i=>ps.length-i) (fun i=>⟨[(0,.d (I9 ps)),(2,bv false),(4,.d (I9 ps)),(5,iv ps.length),(6,iv i)],[],[]⟩) 0 ⟨Aa,rfl⟩ leQ ?_
 ·rintro i ⟨B,e⟩
  by_cases s:i<ps.length
  ·obtain⟨b,q⟩:∃p,ps[i]?=some p:=⟨_,Ev s⟩
   by_cases z:i=0
   ·subst z
    have y:decide (((0:Nat):Int)>0)=false:=rfl
    (repeat'((conv=>whnf);first|refine Ee ?_|refine zI ?_|refine zF ?_|(refine E7 (fun f d=> ?_) (fun f d=> ?_)<;>try(exfalso;omega))));(all_goals(conv=>whnf))
    refine⟨0+1,⟨Aa,e⟩,Aa,?_⟩
    exact leQ
   ·obtain⟨j,rfl⟩:∃j,i=j+1:=⟨i-1,Aa⟩
    obtain⟨a,m⟩:∃p,ps[j]?=some p:=⟨_,Ev Aa⟩
    have y:decide (((j+1:Nat):Int)>0)=true:=Aq Aa
    have v:=VK a b (w a (F9 m)) (w b (F9 q))
    rw[Cj,MC m q] at e
    by_cases g:Ss a b<0
    ·rw[Aq g,Cd] at e
     have u:decide (Ss a b≥0)=false:=Ao Aa
     (repeat'((conv=>whnf);first|refine zD ?_|refine He asP ?_|refine Al v MD ?_|refine NIdx.tab (fun _=>rfl) m ?_|refine NIdx.tab (fun _=>rfl) q ?_|refine zI ?_|refine zF ?_|(refine E7 (fun f d=> ?_) (fun f d=> ?_)<;>try(exfalso;omega))));(all_goals(conv=>whnf))
     refine⟨j+1+1,⟨Aa,e⟩,Aa,?_⟩
     exact leQ
    ·rw[Ao g,C4] at e
     have u:decide (Ss a b≥0)=true:=Aq Aa
     (repeat'((conv=>whnf);first|refine Gp asP ?_|refine Al v MD ?_|refine NIdx.tab (fun _=>rfl) m ?_|refine NIdx.tab (fun _=>rfl) q ?_|refine zI ?_|refine zF ?_|(refine E7 (fun f d=> ?_) (fun f d=> ?_)<;>try(exfalso;omega))));(all_goals(conv=>whnf))
     all_goals(rw[e];exact zE)
  ·obtain rfl:i=ps.length:=by omega
   rw[EQ (ps:=ps.drop (ps.length-1)) Af] at e
   (repeat'((conv=>whnf);(refine E7 (fun f d=> ?_) (fun f d=> ?_)<;>try(exfalso;omega))));(all_goals(conv=>whnf))
   all_goals(rw[e];exact zE)
theorem jL (h:p:=by first|rfl|(simp only[D8,AV.ren,AV.give,D.un,Ef,D7,D6,Ap,Am,Ak,Ea,Ep,Eo];first|done|rfl)):p:=h
def Gj (b:List UInt8) (n:Nat):Option (List UInt8):=
 if(Em b).code≠0∨(Em b).x.isB 2 n true=false then none else some ((b.drop (Em b).x.body).take ((Em b).x.stop-(Em b).x.body))
def ME:Option (List UInt8)→AV
 |none=> .tup [Ff,bv false]
 |some l=> .tup [.d (By false l),bv true]
theorem ER (b:List UInt8) (n:Nat) (m:b.length≤1000000000):aC 411 [.d (By false b),iv n] (ME (Gj b n)):=by
 have i:=Hj b m
 have j:=Fa b
 have f:=Fo (Em b).x 2 n true
 by_cases g:(Em b).code=0
 ·obtain⟨u,q,v,w,s⟩:=j.1 g
  by_cases e:(Em b).x.isB 2 n true=false
  ·rw[Gj,Aj (Cv e)]
   rw[e] at f
   refine acQ 28 Tryz.func411 rfl rfl fun _ _ _=> ?_
   (repeat'((conv=>whnf);first|refine zY ?_|refine Al i jL ?_|refine Al f rfl ?_|(refine H2 (fun d a=> ?_) (fun d a=> ?_)<;>try(exfalso;omega))|exact zE))
   all_goals rfl
  ·rw[Gj,Ai (by rintro(h|h);exact h g;exact e h)]
   rw[Bool.not_eq_false] at e
   rw[e] at f
   refine acQ 28 Tryz.func411 rfl rfl fun _ _ _=> ?_
   (repeat'((conv=>whnf);first|refine Ee ?_|refine Al i jL ?_|refine Al f rfl ?_|refine NSl.slice ((Em b).x.body) ((Em b).x.stop) ?_|(refine H2 (fun d a=> ?_) (fun d a=> ?_)<;>try(exfalso;omega))|exact zE))
   all_goals rfl
 ·rw[Gj,Aj (Cz g)]
  refine acQ 28 Tryz.func411 rfl rfl fun _ _ _=> ?_
  (repeat'((conv=>whnf);first|refine Ej ?_|refine Al i jL ?_|(refine H2 (fun d a=> ?_) (fun d a=> ?_)<;>try(exfalso;omega))|exact zE))
  all_goals rfl
def elO (c:List UInt8) (x:El):List UInt8:=(c.drop x.at').take (x.stop-x.at')
def H8 (c:List UInt8):List (List UInt8):=if(F7 c 0 c.length).code≠0 then [] else(F7 c 0 c.length).l.map (elO c)
def MF (ps:List (List UInt8)):D:=J5 true 1 Pp ps
theorem Ed (ps:List (List UInt8)):(MF ps).un=I9 ps:=K3 (fun x=>by simp only[Pp,Ef,D7]) true 1 ps
theorem nQ (h:p:=by first|rfl|(simp only[D8,AV.ren,AV.give,D.un,Ef,D7,D6,Ap,Am,Ak,Ea,Ep,Eo];first|done|rfl)):p:=h
theorem fY (c:List UInt8) (v:c.length≤1000000000):aC 410 [.d (By false c)] (.d (MF (H8 c))):=by
 have f:=V7 c 0 c.length v Aa Aa
 by_cases j:(F7 c 0 c.length).code≠0
 ·rw[H8,Aj j]
  rw[lrA,Aj j] at f
  refine acQ 35 Tryz.func410 rfl rfl fun _ _ _=> ?_
  (repeat'((conv=>whnf);first|refine Al f nQ ?_|(refine H2 (fun e a=> ?_) (fun e a=> ?_)<;>try(exfalso;omega))));(all_goals(conv=>whnf))
  exact zE
 ·rw[H8,Ai j]
  rw[lrA,Ai j] at f
  have g:=fun x=>V8 (b:=c) (frm:=0) (en:=c.length) (x:=x) (At _)
  have m:(F7 c 0 c.length).l.length≤c.length:=by have:=Tn (b:=c) (en:=c.length) (At _) (c.length-0) 0;exact this
  generalize (F7 c 0 c.length).l=l at f g m⊢
  refine acQ 35 Tryz.func410 rfl rfl fun _ _ _=> ?_
  (repeat'((conv=>whnf);first|refine Ee ?_|refine Al f nQ ?_));(all_goals(conv=>whnf))
  refine F2 [.s 5 1 22] (fun i:Nat=>i≤l.length) (fun i=>l.length-i) (fun i=>⟨[(0,.d (By false c)),(2,Ff),(5,Fy 5 1 22 Pp ((l.take i).map (elO c))),(18,.d (Gw l)),(19,iv l.length),(20,iv i)],[],[(5,(((l.take i).map (elO c)).length,1,22))]⟩) 0 Aa leQ ?_
  ·intro i z
   by_cases d:i<l.length
   ·obtain⟨x,q⟩:∃p,l[i]?=some p:=⟨_,Ev d⟩
    obtain⟨A,B,k3,y,E,k6⟩:=g x (F9 q)
    have w:(l.take (i+1)).map (elO c)=(l.take i).map (elO c)++[elO c x]:=by
     have s:=Ev d
     rw[q] at s
     rw[B7 d,Cp]
     cases s;rfl
    have u:((l.take i).map (elO c)).length≤1000000000-1:=by rw[Ba,Ec];omega
    (repeat'((conv=>whnf);first|refine NIdx.tab (fun _=>rfl) q ?_|refine NSl.slice (x.at') (x.stop) ?_|refine E4 Pp (elO c x) ?_|refine zI ?_|(refine E7 (fun e a=> ?_) (fun e a=> ?_)<;>try(exfalso;omega))));(all_goals(conv=>whnf))
    refine⟨i+1,Aa,Aa,?_⟩
    rw[w]
    exact leQ
   ·obtain rfl:i=l.length:=by omega
    rw[Bv]
    (repeat'((conv=>whnf);(refine E7 (fun e a=> ?_) (fun e a=> ?_)<;>try(exfalso;omega))));(all_goals(conv=>whnf))
    all_goals exact zE
    all_goals rfl
end Go.Proofs.YtbedjionhmaafaaGreatDoor
