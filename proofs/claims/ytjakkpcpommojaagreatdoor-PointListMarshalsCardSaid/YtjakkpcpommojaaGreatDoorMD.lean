/- MD: the texts Tlv Tlv2 Tlv3 El Cmp Ref1 Ref2 Ref3 Ref4 Rev Min Grow Concat List Ord Ref5 Split, one behind the other. No condition but what each lemma says. -/
import Derived.Test.YtjakkpcpommojaaGreatDoorMC
import Derived.Test.YtjakkpcpommojaaGreatDoorMB
import Derived.Test.YtjakkpcpommojaaGreatDoorShelf
import Derived.Shelf.SlicesE.Reverse
import Derived.Shelf.Spec.SlicesGrow
set_option maxRecDepth 100000
set_option maxHeartbeats 16000000
namespace Go.Proofs.YtjakkpcpommojaaGreatDoor
open Go.RowKit
def Oz (c n:Int):Bool:=decide (c<0)||decide (c>3)||decide (n<0)||decide (n≥31)
def idN (c:Int) (k:Bool) (n:Int):Nat:=(c*64+n).toNat+(if k then 32 else 0)
def idX (c n:Int):Int:=IntKind.u8.wrap (IntKind.i64.wrap ((BitVec.ofInt 64 (IntKind.i64.wrap (c*2^6))|||BitVec.ofInt 64 n).toNat:Int))
theorem CT:∀c:Fin 4,∀n:Fin 31,idX c.1 n.1=(idN c.1 false n.1:Nat)∧IntKind.u8.wrap ((BitVec.ofInt 8 (idX c.1 n.1)|||BitVec.ofInt 8 32).toNat:Int)=(idN c.1 true n.1:Nat):=by decide+kernel
theorem FQ {c n:Int} (h:Oz c n=false):idX c n=(idN c false n:Nat)∧IntKind.u8.wrap ((BitVec.ofInt 8 (idX c n)|||BitVec.ofInt 8 32).toNat:Int)=(idN c true n:Nat):=by
 simp only[Oz,Bool.or_eq_false_iff,decide_eq_false_iff_not] at h
 obtain⟨c',rfl⟩:∃c':Nat,c=c':=⟨c.toNat,by omega⟩
 obtain⟨n',rfl⟩:∃n':Nat,n=n':=⟨n.toNat,by omega⟩
 exact CT ⟨c',by omega⟩ ⟨n',by omega⟩
theorem qK (c n:Int) (k:Bool):Ab Tryz.prog 93 [iv c,bv k,iv n] (fun r=>r=if Oz c n then .tup [cv 0,iv 9] else .tup [cv (idN c k n),iv 0]):=by
 cases hb:Oz c n with
 |true=>
  have hb':=hb
  simp only[Oz,Bool.or_eq_true,decide_eq_true_eq] at hb'
  refine acQ 32 Tryz.func93 rfl rfl fun _ _ _=> ?_
  (repeat'((conv=>whnf);first|refine Ac ?_|refine Ae ?_|(refine Ai (fun hc hcP=> ?_) (fun hc hcP=> ?_)<;>try(exfalso;omega))|exact zE))
 |false=>
  have hb':=hb
  simp only[Oz,Bool.or_eq_false_iff,decide_eq_false_iff_not] at hb'
  refine acQ 32 Tryz.func93 rfl rfl fun _ _ _=> ?_
  cases k
  all_goals
   (repeat'((conv=>whnf);first|refine Ac ?_|refine Ae ?_|refine Ar (by first|decide|omega|(simp only[List.length_cons,List.length_nil];omega)) ?_|refine NInt.as _ rfl ?_|(refine Ai (fun hc hcP=> ?_) (fun hc hcP=> ?_)<;>try(exfalso;omega))));(all_goals(conv=>whnf))
   (refine Az ?_;(repeat'(first|exact trivial|exact By _|refine And.intro ?_ ?_|exact rfl));(all_goals(conv=>whnf)))
  ·exact(FQ hb).1
  ·exact(FQ hb).2
theorem vO {c n:Int} (k:Bool) (h:Oz c n=false):Ab Tryz.prog 93 [iv c,bv k,iv n] (fun r=>r= .tup [cv (idN c k n),iv 0]):=(qK c n k).mono fun r hr=>by rw[hr,h];rfl
def vP (x:Nat):AV:=if x%32=31 then .tup [iv 0,bv false,iv 0,iv 3] else .tup [iv (x/64:Nat),bv (x/32%2==1),iv (x%32:Nat),iv 0]
theorem vQ:∀x:Fin 256,(IntKind.u8.wrap ((BitVec.ofInt 8 (x.1:Int)&&&BitVec.ofInt 8 31).toNat:Int))=(x.1%32:Nat)∧(IntKind.u8.wrap ((BitVec.ofInt 8 (x.1:Int)&&&BitVec.ofInt 8 32).toNat:Int))=(x.1/32%2*32:Nat)∧IntKind.i64.wrap ((x.1:Int).fdiv (2^6))=(x.1/64:Nat)∧IntKind.i64.wrap (x.1%32:Nat)=(x.1%32:Nat):=by decide+kernel
theorem Tn (x:Nat) (hx:x<256):Ab Tryz.prog 149 [cv x] (fun r=>r=vP x):=by
 obtain⟨b1,b2,b3,b4⟩:=vQ ⟨x,hx⟩
 simp only at b1 b2 b3 b4
 by_cases hx31:x%32=31
 ·rw[vP,if_pos hx31]
  refine acQ 18 Tryz.func149 rfl rfl fun _ _ _=> ?_
  (repeat'((conv=>whnf);first|refine NInt.as (((x%32:Nat):Int)) (b1) ?_|(refine Ai (fun hc hcP=> ?_) (fun hc hcP=> ?_)<;>try(exfalso;omega))|exact zE))
 ·rw[vP,if_neg hx31]
  refine acQ 18 Tryz.func149 rfl rfl fun _ _ _=> ?_
  (repeat'((conv=>whnf);first|refine NInt.as (((x%32:Nat):Int)) (b1) ?_|refine NInt.as (((x/32%2*32:Nat):Int)) (b2) ?_|(with_reducible refine NInt.i64 ?_)|(with_reducible refine NInt.shr ?_)|refine Ar (by first|decide|omega|(simp only[List.length_cons,List.length_nil];omega)) ?_|refine NInt.as _ rfl ?_|(refine Ai (fun hc hcP=> ?_) (fun hc hcP=> ?_)<;>try(exfalso;omega))));(all_goals(conv=>whnf))
  all_goals(refine Az ?_;(repeat'(first|exact trivial|exact By _|refine And.intro ?_ ?_|exact rfl));(all_goals(conv=>whnf)))
  have b5:IntKind.i64.wrap ((x/64:Nat):Int)=((x/64:Nat):Int):=IntWalk.i64_in _ (by omega)
  all_goals first|exact b3|exact b4|exact b5|skip
  rw[Bool.eq_iff_iff];simp only[bne_iff_ne,ne_eq,beq_iff_eq];omega
def LK (c o:Int):AV:= .tup [iv 0,iv 0,.agg [iv c,iv o]]
theorem Nw (c o:Int):Ab Tryz.prog 175 [iv c,iv o] (fun r=>r=LK c o):=by
 refine acQ 10 Tryz.func175 rfl rfl fun _ _ _=> ?_
 (all_goals(conv=>whnf))
 all_goals exact zE
 all_goals rfl
def beV (l:List UInt8):Nat:=l.foldl (fun a b=>a*256+b.toNat) 0
theorem O0 (l:List UInt8) (b:UInt8):beV (l++[b])=beV l*256+b.toNat:=by simp[beV]
theorem iW (l:List UInt8):beV l<256^l.length:=by
 have gen:∀(l:List UInt8) (a:Nat),l.foldl (fun a b=>a*256+b.toNat) a<(a+1)*256^l.length:=by
  intro l
  induction l with
  |nil=>intro a;simp
  |cons b r ih=>
   intro a
   rw[List.foldl_cons,List.length_cons,Nat.pow_succ]
   have h:=ih (a*256+b.toNat)
   have hb:=b.toNat_lt
   refine Nat.lt_of_lt_of_le h ?_
   rw[Nat.mul_comm (256^r.length) 256,←Nat.mul_assoc]
   exact Nat.mul_le_mul_right _ (by omega)
 have:=gen l 0
 simpa[beV] using this
def rlS:List UInt8→Nat×Nat×Nat×Nat
 |[]=>(0,0,1,0)
 |x::r=>if x.toNat<128 then(x.toNat,1,0,0) else if x.toNat=128∨x.toNat>132 then(0,0,4,0) else if r.length<x.toNat-128 then(0,0,1,r.length+1) else
   if(r.headD 0).toNat=0∨beV (r.take (x.toNat-128))<128∨beV (r.take (x.toNat-128))>2147483647 then(0,0,4,0) else(beV (r.take (x.toNat-128)),x.toNat-127,0,0)
def rlA (p:Nat×Nat×Nat×Nat):AV:= .tup [iv p.1,iv p.2.1,.agg [iv p.2.2.1,iv p.2.2.2]]
theorem Mk {x:UInt8} {r:List UInt8} (h:x.toNat<128):rlS (x::r)=(x.toNat,1,0,0):=by rw[rlS,if_pos h]
theorem To {x:UInt8} {r:List UInt8} (h:128≤x.toNat) (h2:x.toNat=128∨x.toNat>132):rlS (x::r)=(0,0,4,0):=by rw[rlS,if_neg (by omega),if_pos h2]
theorem Qf {x:UInt8} {r:List UInt8} (h:128<x.toNat) (h2:x.toNat≤132) (h3:r.length<x.toNat-128):rlS (x::r)=(0,0,1,r.length+1):=by rw[rlS,if_neg (by omega),if_neg (by omega),if_pos h3]
theorem Sa {x y:UInt8} {s:List UInt8} {k:Nat} (hk:x.toNat=k+128) (h:1≤k) (h2:k≤4) (h3:k≤s.length+1) (h4:y.toNat=0∨beV ((y::s).take k)<128∨beV ((y::s).take k)>2147483647):rlS (x::y::s)=(0,0,4,0):=by
 rw[rlS,hk,Nat.add_sub_cancel]
 rw[if_neg (by omega),if_neg (by omega),if_neg (by rw[List.length_cons];omega)];exact if_pos h4
theorem Yx {x y:UInt8} {s:List UInt8} {k:Nat} (hk:x.toNat=k+128) (h:1≤k) (h2:k≤4) (h3:k≤s.length+1) (h4:¬(y.toNat=0∨beV ((y::s).take k)<128∨beV ((y::s).take k)>2147483647)):rlS (x::y::s)=(beV ((y::s).take k),k+1,0,0):=by
 rw[rlS,hk,Nat.add_sub_cancel]
 rw[if_neg (by omega),if_neg (by omega),if_neg (by rw[List.length_cons];omega)];refine(if_neg h4).trans ?_
 rw[show k+128-127=k+1 by omega]
theorem vR (n:Nat) (b:UInt8) (hn:n<4294967296):IntKind.i64.wrap ((BitVec.ofInt IntKind.i64.bits (IntKind.i64.wrap ((n:Int)*2^(min (Int.toNat 8) IntKind.i64.bits)))|||BitVec.ofInt IntKind.i64.bits (b.toNat:Int)).toNat:Int)=((n*256+b.toNat:Nat):Int):=by
 have hb:=b.toNat_lt
 have e1:IntKind.i64.wrap ((n:Int)*2^(min (Int.toNat 8) IntKind.i64.bits))=((n*256:Nat):Int):=by
  have:(2:Int)^(min (Int.toNat 8) IntKind.i64.bits)=256:=by decide
  rw[this,IntWalk.i64_in _ (by omega)];omega
 rw[e1,BitVec.toNat_or,BitVec.ofInt_natCast,BitVec.ofInt_natCast,BitVec.toNat_ofNat,BitVec.toNat_ofNat]
 have hb64:2^IntKind.i64.bits=18446744073709551616:=by decide
 rw[hb64,Nat.mod_eq_of_lt (by omega),Nat.mod_eq_of_lt (by omega)]
 have:n*256|||b.toNat=n*256+b.toNat:=by
  have h:=Nat.shiftLeft_add_eq_or_of_lt (i:=8) (b:=b.toNat) (by omega) n
  rw[Nat.shiftLeft_eq] at h
  exact h.symm
 rw[this,IntWalk.i64_in _ (by omega)]
theorem cK (l:List UInt8) (hl:l.length≤1000000000):Ab Tryz.prog 150 [.d (Ag false l)] (fun r=>r=rlA (rlS l)):=by
 cases l with
 |nil=>
  refine acQ 87 Tryz.func150 rfl rfl fun _ _ _=> ?_
  (repeat'((conv=>whnf);first|refine Ac ?_|refine Aa (Nw _ _) rfl ?_|exact zE))
 |cons x r=>
  have hx:=x.toNat_lt
  have h0:(x::r)[0]?=some x:=rfl
  simp only[List.length_cons] at hl
  refine acQ 87 Tryz.func150 rfl rfl fun _ _ _=> ?_
  (repeat'((conv=>whnf);first|refine Ac ?_|refine Ae ?_|refine Aa (Nw _ _) rfl ?_|refine NIdx.bytes h0 ?_|(with_reducible refine NInt.i64 ?_)|(refine Ai (fun hc hcP=> ?_) (fun hc hcP=> ?_)<;>try(exfalso;omega))));(all_goals(conv=>whnf))
  all_goals try(simp only[List.length_cons] at*;first|(rw[Mk (by omega)];exact zE)|(rw[To (by omega) (by omega)];exact zE)|(rw[Qf (by omega) (by omega) (by omega)];exact zE))
  simp only[List.length_cons] at*
  obtain⟨k,hk⟩:∃k:Nat,x.toNat=k+128:=⟨x.toNat-128,by omega⟩
  refine Au (fun i:Nat=>1≤i∧i≤k+1) (fun i=>k+1-i) (fun i=>⟨[(0,.d (Ag false (x::r))),(4,.ptr 4 0),(5,.d (.fn 175 [])),(6,iv k),(7,iv (beV (r.take (i-1)))),(8,iv i)],[(4,[iv 0,iv 0])],[]⟩) 1 (by omega) leQ ?_
  intro i hi
  have hbv:=iW (r.take (i-1))
  by_cases hik:i≤k
  ·obtain⟨b,hb⟩:∃b,(x::r)[i]?=some b:=⟨_,List.getElem?_eq_getElem (by simp only[List.length_cons];omega)⟩
   have hn32:beV (r.take (i-1))<4294967296:=by
    refine Nat.lt_of_lt_of_le hbv ?_
    refine Nat.le_trans (Nat.pow_le_pow_right (by omega) (show(r.take (i-1)).length≤4 by rw[List.length_take];omega)) (by decide)
   have hor:=vR (beV (r.take (i-1))) b hn32
   have hsn:beV (r.take i)=beV (r.take (i-1))*256+b.toNat:=by
    obtain⟨j,rfl⟩:∃j,i=j+1:=⟨i-1,by omega⟩
    have hj:j<r.length:=by omega
    have:r[j]?=some b:=by simpa using hb
    rw[List.getElem?_eq_getElem hj] at this
    rw[List.take_succ_eq_append_getElem hj,O0,Nat.add_sub_cancel]
    cases this;rfl
   rw[←hsn] at hor
   have hbl:=b.toNat_lt
   (repeat'((conv=>whnf);first|refine NIdx.bytes hb ?_|refine NInt.as (((beV (r.take i):Nat):Int)) (hor) ?_|(with_reducible refine NInt.i64 ?_)|refine Ar (by first|decide|omega|(simp only[List.length_cons,List.length_nil];omega)) ?_|refine NInt.as _ rfl ?_|(refine Ai (fun hc hcP=> ?_) (fun hc hcP=> ?_)<;>try(exfalso;omega))));(all_goals(conv=>whnf))
   refine⟨i+1,by omega,by omega,?_⟩
   exact leQ
  ·obtain rfl:i=k+1:=by omega
   cases r with
   |nil=>simp only[List.length_nil] at*;omega
   |cons y s=>
    have h1:(x::y::s)[1]?=some y:=rfl
    have hy:=y.toNat_lt
    rw[Nat.add_sub_cancel] at*
    simp only[List.length_cons] at*
    (repeat'((conv=>whnf);first|refine Ac ?_|refine Ae ?_|refine NIdx.bytes h1 ?_|refine Aa (Nw _ _) rfl ?_|(with_reducible refine NInt.i64 ?_)|(refine Ai (fun hc hcP=> ?_) (fun hc hcP=> ?_)<;>try(exfalso;omega))));(all_goals(conv=>whnf))
    all_goals first|(rw[Sa hk (by omega) (by omega) (by omega) (by omega)];exact zE)|(rw[Yx hk (by omega) (by omega) (by omega) (by omega)];exact zE)
theorem iX {x:UInt8} (h:x.toNat%32=31):Ab Tryz.prog 149 [cv x.toNat] (fun r=>r= .tup [iv 0,bv false,iv 0,iv 3]):=(Tn x.toNat x.toNat_lt).mono fun r hr=>by rw[hr,vP,if_pos h]
theorem qL {x:UInt8} (h:¬x.toNat%32=31):Ab Tryz.prog 149 [cv x.toNat] (fun r=>r= .tup [iv (x.toNat/64:Nat),bv (x.toNat/32%2==1),iv (x.toNat%32:Nat),iv 0]):=(Tn x.toNat x.toNat_lt).mono fun r hr=>by rw[hr,vP,if_neg h]
structure Hd where
 c:Nat
 n:Nat
 k:Bool
 len:Nat
 size:Nat
 code:Nat
 off:Nat
def Hd.bad (code off:Nat):Hd:=⟨0,0,false,0,0,code,off⟩
def rhS:List UInt8→Hd
 |[]=> .bad 1 0
 |x::r=>if x.toNat%32=31 then .bad 3 0 else if(rlS r).2.2.1=0 then⟨x.toNat/64,x.toNat%32,x.toNat/32%2==1,(rlS r).1,(rlS r).2.1+1,0,0⟩ else .bad (rlS r).2.2.1 ((rlS r).2.2.2+1)
def hdA (h:Hd):AV:= .agg [iv h.c,iv h.n,bv h.k,iv h.len,iv h.size]
def erA (c o:Int):AV:= .agg [iv c,iv o]
def rhA (h:Hd):AV:= .tup [hdA h,erA h.code h.off]
theorem Nx (l:List UInt8):(rlS l).2.1≤5∧(rlS l).2.2.2≤l.length∧(rlS l).1≤2147483647∧((rlS l).2.2.1=0→(rlS l).2.1≤l.length∧1≤(rlS l).2.1∧(rlS l).2.2.2=0)∧(rlS l).2.2.1≤4:=by
 cases l with
 |nil=>simp[rlS]
 |cons x r=>
  have hx:=x.toNat_lt
  rw[rlS]
  by_cases h1:x.toNat<128
  ·rw[if_pos h1];simp;omega
  rw[if_neg h1]
  by_cases h2:x.toNat=128∨x.toNat>132
  ·rw[if_pos h2];simp
  rw[if_neg h2]
  by_cases h3:r.length<x.toNat-128
  ·rw[if_pos h3];simp
  rw[if_neg h3]
  by_cases h4:(r.headD 0).toNat=0∨beV (r.take (x.toNat-128))<128∨beV (r.take (x.toNat-128))>2147483647
  ·rw[if_pos h4];simp
  ·rw[if_neg h4];simp;omega
theorem O1 (l:List UInt8) (hl:l.length≤1000000000):Ab Tryz.prog 119 [.d (Ag false l)] (fun r=>r=rhA (rhS l)):=by
 cases l with
 |nil=>
  refine acQ 54 Tryz.func119 rfl rfl fun _ _ _=> ?_
  (repeat'((conv=>whnf);refine Ac ?_));(all_goals(conv=>whnf))
  all_goals exact zE
 |cons x r=>
  have hx:=x.toNat_lt
  have h0:(x::r)[0]?=some x:=rfl
  simp only[List.length_cons] at hl
  obtain⟨b1,b2,b3,b4,b5⟩:=Nx r
  by_cases h31:x.toNat%32=31
  ·rw[rhS,if_pos h31]
   refine acQ 54 Tryz.func119 rfl rfl fun _ _ _=> ?_
   (repeat'((conv=>whnf);first|refine Ac ?_|refine Ae ?_|refine Aa (iX h31) rfl ?_|refine NIdx.bytes h0 ?_|exact zE))
  ·refine acQ 54 Tryz.func119 rfl rfl fun _ _ _=> ?_
   (repeat'((conv=>whnf);first|refine Ae ?_|refine Aa (qL h31) rfl ?_|refine Aa (cK r (by omega)) gvQ ?_|refine NIdx.bytes h0 ?_|refine Gm (1) ?_|(with_reducible refine NInt.i64 ?_)|refine zF ?_|(refine Cj (fun hc hcP=> ?_) (fun hc hcP=> ?_)<;>try(exfalso;omega))));(all_goals(conv=>whnf))
   ·have hz:¬(rlS r).2.2.1=0:=by omega
    rw[rhS,if_neg h31,if_neg hz];exact zE
   ·have hz:(rlS r).2.2.1=0:=by omega
    rw[rhS,if_neg h31,if_pos hz];exact zE
theorem D4 (l:List UInt8):((rhS l).code=0→2≤(rhS l).size∧(rhS l).size≤l.length∧(rhS l).off=0)∧(rhS l).size≤6∧(rhS l).off≤l.length∧(rhS l).len≤2147483647∧(rhS l).code≤4∧(rhS l).c≤3∧(rhS l).n≤30:=by
 cases l with
 |nil=>simp[rhS,Hd.bad]
 |cons x r=>
  have hx:=x.toNat_lt
  obtain⟨b1,b2,b3,b4,b5⟩:=Nx r
  rw[rhS]
  by_cases h1:x.toNat%32=31
  ·rw[if_pos h1];simp[Hd.bad]
  rw[if_neg h1]
  by_cases h2:(rlS r).2.2.1=0
  ·rw[if_pos h2]
   have:=b4 h2
   simp only[List.length_cons]
   refine⟨fun _=>⟨?_,?_,?_⟩,?_,?_,?_,?_,?_,?_⟩<;>omega
  ·rw[if_neg h2]
   simp only[Hd.bad,List.length_cons]
   refine⟨fun h=>absurd h h2,?_,?_,?_,?_,?_,?_⟩<;>omega
structure El where
 c:Nat
 n:Nat
 k:Bool
 at':Nat
 body:Nat
 stop:Nat
 deriving DecidableEq
def El.zero:El:=⟨0,0,false,0,0,0⟩
structure ElR where
 x:El
 code:Nat
 off:Nat
def ElR.bad (code off:Nat):ElR:=⟨.zero,code,off⟩
def nxS (b:List UInt8) (at' en:Nat):ElR:=
 if(rhS ((b.drop at').take (en-at'))).code≠0 then .bad (rhS ((b.drop at').take (en-at'))).code ((rhS ((b.drop at').take (en-at'))).off+at')
 else if en-at'<(rhS ((b.drop at').take (en-at'))).size+(rhS ((b.drop at').take (en-at'))).len then .bad 1 en
 else⟨⟨(rhS ((b.drop at').take (en-at'))).c,(rhS ((b.drop at').take (en-at'))).n,(rhS ((b.drop at').take (en-at'))).k,at',at'+(rhS ((b.drop at').take (en-at'))).size,at'+(rhS ((b.drop at').take (en-at'))).size+(rhS ((b.drop at').take (en-at'))).len⟩,0,0⟩
def elC (e:El):List D:=[.v (.int .i64 e.c),.v (.int .i64 e.n),.v (.bool e.k),.v (.int .i64 e.at'),.v (.int .i64 e.body),.v (.int .i64 e.stop)]
def elA (e:El):AV:= .agg [iv e.c,iv e.n,bv e.k,iv e.at',iv e.body,iv e.stop]
def erR (r:ElR):AV:= .tup [elA r.x,erA r.code r.off]
theorem vS {b:List UInt8} {at' en:Nat} {h:Hd} (hh:rhS ((b.drop at').take (en-at'))=h) (h1:h.code≠0):nxS b at' en= .bad h.code (h.off+at'):=by
 unfold nxS;rw[hh,if_pos h1]
theorem qM {b:List UInt8} {at' en:Nat} {h:Hd} (hh:rhS ((b.drop at').take (en-at'))=h) (h1:h.code=0) (h2:en-at'<h.size+h.len):nxS b at' en= .bad 1 en:=by
 unfold nxS;rw[hh,if_neg (by omega),if_pos h2]
theorem vT {b:List UInt8} {at' en:Nat} {h:Hd} (hh:rhS ((b.drop at').take (en-at'))=h) (h1:h.code=0) (h2:h.size+h.len≤en-at'):nxS b at' en=⟨⟨h.c,h.n,h.k,at',at'+h.size,at'+h.size+h.len⟩,0,0⟩:=by
 unfold nxS;rw[hh,if_neg (by omega),if_neg (by omega)]
theorem cL (b:List UInt8) (at' en:Nat) (hb:b.length≤1000000000) (h1:at'≤en) (h2:en≤b.length):Ab Tryz.prog 87 [.d (Ag false b),iv at',iv en] (fun r=>r=erR (nxS b at' en)):=by
 have hlen:((b.drop at').take (en-at')).length=en-at':=by simp;omega
 have hR:=O1 ((b.drop at').take (en-at')) (by omega)
 have hB:=D4 ((b.drop at').take (en-at'))
 rw[hlen] at hB
 generalize hh:rhS ((b.drop at').take (en-at'))=h at hR hB
 obtain⟨c1,c2,c3,c4,c5,c6,c7⟩:=hB
 refine acQ 60 Tryz.func87 rfl rfl fun _ _ _=> ?_
 (repeat'((conv=>whnf);first|refine Aa hR gvQ ?_|refine NSl.slice (at') (en) ?_|(with_reducible refine NInt.i64 ?_)|refine zF ?_|(refine NBr.mk (fun hc=> ?_) (fun hc=> ?_)<;>(have hcP:=hc;(try simp only[decide_eq_true_eq,decide_eq_false_iff_not,bne_iff_ne,bne_eq_false_iff_eq,ne_eq] at hcP)<;>first|(exfalso;omega)|skip))));(all_goals(conv=>whnf))
 all_goals(refine B7 rfl (?_:_=_);try simp only[AV.dat,AV.dats])
 all_goals
  simp only[decide_eq_true_eq,decide_eq_false_iff_not,bne_iff_ne,bne_eq_false_iff_eq,ne_eq] at*
  first|(rw[vS hh (by omega)];rfl)|(rw[qM hh (by omega) (by omega)];rfl)|(rw[vT hh (by omega) (by omega)];rfl)
theorem F7 (b:List UInt8) (at' en:Nat) (h1:at'≤en) (h2:en≤b.length):((nxS b at' en).code=0→(nxS b at' en).x.at'=at'∧at'+2≤(nxS b at' en).x.body∧(nxS b at' en).x.body≤(nxS b at' en).x.stop∧(nxS b at' en).x.stop≤en∧(nxS b at' en).off=0)∧(nxS b at' en).code≤4∧(nxS b at' en).off≤en∧(nxS b at' en).x.c≤3∧(nxS b at' en).x.n≤30∧(nxS b at' en).x.stop≤en∧(nxS b at' en).x.body≤(nxS b at' en).x.stop:=by
 have hB:=D4 ((b.drop at').take (en-at'))
 have hlen:((b.drop at').take (en-at')).length=en-at':=by simp;omega
 rw[hlen] at hB
 unfold nxS
 generalize rhS ((b.drop at').take (en-at'))=h at hB
 obtain⟨c1,c2,c3,c4,c5,c6,c7⟩:=hB
 by_cases k1:h.code≠0
 ·rw[if_pos k1];simp only[ElR.bad,El.zero];omega
 rw[if_neg k1]
 by_cases k2:en-at'<h.size+h.len
 ·rw[if_pos k2];simp only[ElR.bad,El.zero];omega
 have:=c1 (by omega)
 rw[if_neg k2]
 refine⟨fun _=>⟨rfl,?_,?_,?_,rfl⟩,?_,?_,?_,?_,?_,?_⟩<;>simp only[]<;>omega
def A8 (b:List UInt8):ElR:=if(nxS b 0 b.length).code=0∧(nxS b 0 b.length).x.stop<b.length then .bad 2 (nxS b 0 b.length).x.stop else nxS b 0 b.length
theorem Kp (b:List UInt8) (hb:b.length≤1000000000):Ab Tryz.prog 61 [.d (Ag false b)] (fun r=>r=erR (A8 b)):=by
 have hR:=cL b 0 b.length hb (by omega) (by omega)
 have hB:=F7 b 0 b.length (by omega) (by omega)
 unfold A8
 generalize hh:nxS b 0 b.length=h at hR hB⊢
 obtain⟨c1,c2,c3,c4,c5,c6,c7⟩:=hB
 by_cases k1:h.code=0
 ·by_cases k2:h.x.stop<b.length
  ·rw[if_pos ⟨k1,k2⟩]
   refine acQ 29 Tryz.func61 rfl rfl fun _ _ _=> ?_
   (repeat'((conv=>whnf);first|refine Ac ?_|refine Aa hR gvQ ?_|refine zF ?_|(refine NBr.mk (fun hc=> ?_) (fun hc=> ?_)<;>(have hcP:=hc;(try simp only[decide_eq_true_eq,decide_eq_false_iff_not,beq_iff_eq,beq_eq_false_iff_ne,ne_eq] at hcP)<;>first|(exfalso;omega)|skip))));(all_goals(conv=>whnf))
   all_goals(refine B7 rfl (?_:_=_);try simp only[AV.dat,AV.dats])
   all_goals rfl
  ·rw[if_neg (fun x=>k2 x.2)]
   refine acQ 29 Tryz.func61 rfl rfl fun _ _ _=> ?_
   (repeat'((conv=>whnf);first|refine Ac ?_|refine Aa hR gvQ ?_|refine zF ?_|(refine NBr.mk (fun hc=> ?_) (fun hc=> ?_)<;>(have hcP:=hc;(try simp only[decide_eq_true_eq,decide_eq_false_iff_not,beq_iff_eq,beq_eq_false_iff_ne,ne_eq] at hcP)<;>first|(exfalso;omega)|skip))));(all_goals(conv=>whnf))
   all_goals(refine B7 rfl (?_:_=_);try simp only[AV.dat,AV.dats])
   all_goals rfl
 ·rw[if_neg (fun x=>k1 x.1)]
  refine acQ 29 Tryz.func61 rfl rfl fun _ _ _=> ?_
  (repeat'((conv=>whnf);first|refine Ae ?_|refine Aa hR gvQ ?_|refine zF ?_|(refine NBr.mk (fun hc=> ?_) (fun hc=> ?_)<;>(have hcP:=hc;(try simp only[beq_iff_eq,beq_eq_false_iff_ne,ne_eq] at hcP)<;>first|(exfalso;omega)|skip))));(all_goals(conv=>whnf))
  all_goals(refine B7 rfl (?_:_=_);try simp only[AV.dat,AV.dats])
  all_goals rfl
def El.isB (e:El) (c n:Nat) (k:Bool):Bool:=e.c==c&&e.k==k&&e.n==n
theorem Hi (a b:Nat):((a:Int)==(b:Int))=(a==b):=by
 rw[Bool.eq_iff_iff];simp only[beq_iff_eq];omega
theorem Qg (e:El) (c n:Nat) (k:Bool):Ab Tryz.prog 80 [elA e,iv c,bv k,iv n] (fun r=>r=bv (e.isB c n k)):=by
 refine acQ 25 Tryz.func80 rfl rfl fun _ _ _=> ?_
 (repeat'((conv=>whnf);first|refine Ac ?_|refine Ae ?_|(refine NBr.mk (fun hc=> ?_) (fun hc=> ?_)<;>(have hcP:=hc;(try simp only[beq_iff_eq,beq_eq_false_iff_ne,ne_eq] at hcP)<;>first|(exfalso;omega)|skip))));(all_goals(conv=>whnf))
 all_goals(refine B7 rfl (?_:_=_);try simp only[AV.dat])
 all_goals
  simp only[Hi] at*
  simp only[El.isB, *]
  first|rfl|(simp;done)
def cM (a b:UInt8):Int:=if a.toNat<b.toNat then-1 else if b.toNat<a.toNat then 1 else 0
def Ev:List UInt8→List UInt8→Int
 |[],[]=>0
 |[],_::_=> -1
 |_::_,[]=>1
 |a::r,b::s=>if a.toNat<b.toNat then-1 else if b.toNat<a.toNat then 1 else Ev r s
theorem Wy {a b:List UInt8}:∀{i:Nat} {x y:UInt8},a[i]?=some x→b[i]?=some y→Ev (a.drop i) (b.drop i)=if x.toNat<y.toNat then-1 else if y.toNat<x.toNat then 1 else Ev (a.drop (i+1)) (b.drop (i+1)):=by
 intro i x y h1 h2
 obtain⟨l1,e1⟩:=List.getElem?_eq_some_iff.1 h1
 obtain⟨l2,e2⟩:=List.getElem?_eq_some_iff.1 h2
 rw[List.drop_eq_getElem_cons l1,List.drop_eq_getElem_cons l2,e1,e2,Ev]
theorem lY (n:Nat):Ab Tryz.prog 191 [cv n] (fun r=>r=bv false):=by
 refine acQ 6 Tryz.func191 rfl rfl fun _ _ _=> ?_
 (all_goals(conv=>whnf))
 all_goals(refine B7 rfl (?_:_=_);try simp only[AV.dat])
 all_goals simp
theorem vU (a b:UInt8):Ab Tryz.prog 169 [cv a.toNat,cv b.toNat] (fun r=>r=iv (cM a b)):=by
 refine acQ 20 Tryz.func169 rfl rfl fun _ _ _=> ?_
 (repeat'((conv=>whnf);first|refine Ae ?_|refine Aa (lY a.toNat) rfl ?_|refine Aa (lY b.toNat) rfl ?_|(refine Ai (fun hc hcP=> ?_) (fun hc hcP=> ?_)<;>try(exfalso;omega))));(all_goals(conv=>whnf))
 all_goals(refine B7 rfl (?_:_=_);try simp only[AV.dat])
 all_goals
  simp only[decide_eq_true_eq,decide_eq_false_iff_not] at*
  unfold cM
  first|(rw[if_pos (by omega)])|(rw[if_neg (by omega),if_pos (by omega)])|(rw[if_neg (by omega),if_neg (by omega)])
theorem Tp (a b:UInt8):Ab Tryz.prog 168 [cv a.toNat,cv b.toNat] (fun r=>r=iv (cM a b)):=by
 refine acQ 8 Tryz.func168 rfl rfl fun _ _ _=> ?_
 (repeat'((conv=>whnf);refine Aa (vU a b) rfl ?_));(all_goals(conv=>whnf))
 all_goals(refine B7 rfl (?_:_=_);try simp only[AV.dat])
 all_goals rfl
theorem vV (a b:List UInt8) (ha:a.length≤1000000000) (hb:b.length≤1000000000):Ab Tryz.prog 167 [.d (Ag false a),.d (Ag false b),.d (.fn 168 [])] (fun r=>r=iv (Ev a b)):=by
 refine acQ 39 Tryz.func167 rfl rfl fun _ _ _=> ?_
 (all_goals(conv=>whnf))
 refine Au (fun i:Nat=>i≤a.length∧i≤b.length∧Ev a b=Ev (a.drop i) (b.drop i)) (fun i=>a.length-i) (fun i=>⟨[(0,.d (Ag false a)),(1,.d (Ag false b)),(2,.d (.fn 168 [])),(6,iv 0),(11,.d (Ag false a)),(12,iv a.length),(13,iv i)],[],[]⟩) 0 ⟨by omega,by omega,rfl⟩ leQ ?_
 ·rintro i ⟨hi1,hi2,he⟩
  by_cases hia:i<a.length
  ·obtain⟨x,hx⟩:∃x,a[i]?=some x:=⟨_,List.getElem?_eq_getElem hia⟩
   by_cases hib:i<b.length
   ·obtain⟨y,hy⟩:∃y,b[i]?=some y:=⟨_,List.getElem?_eq_getElem hib⟩
    rw[Wy hx hy] at he
    by_cases h1:x.toNat<y.toNat
    ·have hc:cM x y= -1:=if_pos h1
     have hC:=Tp x y
     rw[hc] at hC
     (repeat'((conv=>whnf);first|refine Ac ?_|refine NIdx.bytes hx ?_|refine NIdx.bytes hy ?_|refine Aa hC rfl ?_|(refine Ai (fun hc hcP=> ?_) (fun hc hcP=> ?_)<;>try(exfalso;omega))));(all_goals(conv=>whnf))
     all_goals(refine B7 rfl (?_:_=_);try simp only[AV.dat])
     all_goals(rw[he,if_pos h1])
    by_cases h2:y.toNat<x.toNat
    ·have hc:cM x y=1:=by unfold cM;rw[if_neg h1,if_pos h2]
     have hC:=Tp x y
     rw[hc] at hC
     (repeat'((conv=>whnf);first|refine Ac ?_|refine NIdx.bytes hx ?_|refine NIdx.bytes hy ?_|refine Aa hC rfl ?_|(refine Ai (fun hc hcP=> ?_) (fun hc hcP=> ?_)<;>try(exfalso;omega))));(all_goals(conv=>whnf))
     all_goals(refine B7 rfl (?_:_=_);try simp only[AV.dat])
     all_goals(rw[he,if_neg h1,if_pos h2])
    ·have hc:cM x y=0:=by unfold cM;rw[if_neg h1,if_neg h2]
     have hC:=Tp x y
     rw[hc] at hC
     rw[if_neg h1,if_neg h2] at he
     (repeat'((conv=>whnf);first|refine Ae ?_|refine NIdx.bytes hx ?_|refine NIdx.bytes hy ?_|refine Aa hC rfl ?_|(with_reducible refine NInt.i64 ?_)|(refine Ai (fun hc hcP=> ?_) (fun hc hcP=> ?_)<;>try(exfalso;omega))));(all_goals(conv=>whnf))
     refine⟨i+1,⟨by omega,by omega,he⟩,by omega,?_⟩
     exact leQ
   ·obtain rfl:i=b.length:=by omega
    (repeat'((conv=>whnf);first|refine NIdx.bytes hx ?_|(refine Ai (fun hc hcP=> ?_) (fun hc hcP=> ?_)<;>try(exfalso;omega))));(all_goals(conv=>whnf))
    all_goals(refine B7 rfl (?_:_=_);try simp only[AV.dat])
    all_goals
     rw[he,List.drop_length,List.drop_eq_getElem_cons hia,Ev]
  ·obtain rfl:i=a.length:=by omega
   (repeat'((conv=>whnf);(refine Ai (fun hc hcP=> ?_) (fun hc hcP=> ?_)<;>try(exfalso;omega))));(all_goals(conv=>whnf))
   all_goals(refine B7 rfl (?_:_=_);try simp only[AV.dat])
   all_goals
    rw[he,List.drop_length]
    simp only[decide_eq_true_eq,decide_eq_false_iff_not] at*
   ·rw[List.drop_eq_getElem_cons (by omega),Ev]
   ·obtain hl:b.length≤a.length:=by omega
    rw[List.drop_of_length_le hl,Ev]
theorem CU (a b:List UInt8) (ha:a.length≤1000000000) (hb:b.length≤1000000000):Ab Tryz.prog 143 [.d (Ag false a),.d (Ag false b)] (fun r=>r=iv (Ev a b)):=by
 refine acQ 8 Tryz.func143 rfl rfl fun _ _ _=> ?_
 (repeat'((conv=>whnf);refine Aa (vV a b ha hb) gvQ ?_));(all_goals(conv=>whnf))
 all_goals(refine B7 rfl (?_:_=_);try simp only[AV.dat])
 all_goals rfl
def Ji (n:Nat):List UInt8:=if n<256 then [UInt8.ofNat n] else Ji (n/256)++[UInt8.ofNat (n%256)]
termination_by n
decreasing_by omega
theorem Cv {n:Nat} (h:n<256):Ji n=[UInt8.ofNat n]:=by rw[Ji,if_pos h]
theorem H6 {n:Nat} (h:¬n<256):Ji n=Ji (n/256)++[UInt8.ofNat (n%256)]:=by rw[Ji,if_neg h]
theorem Ik:∀(k n:Nat),n<256^(k+1)→1≤(Ji n).length∧(Ji n).length≤k+1
 |0,n,h=>by rw[Cv (by omega)];simp
 |k+1,n,h=>by
  by_cases h1:n<256
  ·rw[Cv h1];simp
  ·rw[H6 h1]
   have:=Ik k (n/256) (by rw[Nat.pow_succ] at h;omega)
   simp;omega
theorem vW (n:Nat) (hn:n≤18446744073709551615):Ab Tryz.prog 127 [.d (.v (.int .u64 (n:Int)))] (fun r=>r=A4 0 5 (Ji n)):=by
 induction n using Nat.strongRecOn with
 |ind n ih=>
  by_cases h:n<256
  ·rw[Cv h]
   refine acQ 16 Tryz.func127 rfl rfl fun _ _ _=> ?_
   (repeat'((conv=>whnf);first|(with_reducible refine J2 ?_)|(refine Ai (fun hc hcP=> ?_) (fun hc hcP=> ?_)<;>try(exfalso;omega))|exact zE))
  ·rw[H6 h]
   have hM:=ih (n/256) (by omega) (by omega)
   have hl:=(Ik 7 (n/256) (by omega)).2
   refine acQ 16 Tryz.func127 rfl rfl fun _ _ _=> ?_
   (repeat'((conv=>whnf);first|refine Aa hM rfl ?_|(with_reducible refine J2 ?_)|refine H5 (_) ?_|(with_reducible refine B5 ?_)|(with_reducible refine Bh ?_)|refine Ar (by first|decide|omega|(simp only[List.length_cons,List.length_nil];omega)) ?_|(refine Ai (fun hc hcP=> ?_) (fun hc hcP=> ?_)<;>try(exfalso;omega))|exact zE))
theorem cN (a b:List UInt8) (ha:a.length≤1000000000) (hb:b.length≤1000000000):Ab Tryz.prog 135 [.d (Ag false a),.d (Ag false b)] (fun r=>r=iv (Ev a b)):=by
 refine acQ 46 Tryz.func135 rfl rfl fun _ _ _=> ?_
 (all_goals(conv=>whnf))
 refine Au (fun i:Nat=>i≤a.length∧i≤b.length∧Ev a b=Ev (a.drop i) (b.drop i)) (fun i=>a.length-i) (fun i=>⟨[(0,.d (Ag false a)),(1,.d (Ag false b)),(4,iv 0),(5,iv i)],[],[]⟩) 0 ⟨by omega,by omega,rfl⟩ leQ ?_
 ·rintro i ⟨hi1,hi2,he⟩
  by_cases hia:i<a.length
  ·obtain⟨x,hx⟩:∃x,a[i]?=some x:=⟨_,List.getElem?_eq_getElem hia⟩
   by_cases hib:i<b.length
   ·obtain⟨y,hy⟩:∃y,b[i]?=some y:=⟨_,List.getElem?_eq_getElem hib⟩
    rw[Wy hx hy] at he
    by_cases h1:x.toNat<y.toNat
    ·(repeat'((conv=>whnf);first|refine Ac ?_|refine NIdx.bytes hx ?_|refine NIdx.bytes hy ?_|refine zF ?_|(refine Ai (fun hc hcP=> ?_) (fun hc hcP=> ?_)<;>try(exfalso;omega))));(all_goals(conv=>whnf))
     all_goals(refine B7 rfl (?_:_=_);try simp only[AV.dat])
     all_goals(rw[he,if_pos h1])
    by_cases h2:y.toNat<x.toNat
    ·(repeat'((conv=>whnf);first|refine Ac ?_|refine NIdx.bytes hx ?_|refine NIdx.bytes hy ?_|refine zF ?_|(refine Ai (fun hc hcP=> ?_) (fun hc hcP=> ?_)<;>try(exfalso;omega))));(all_goals(conv=>whnf))
     all_goals(refine B7 rfl (?_:_=_);try simp only[AV.dat])
     all_goals(rw[he,if_neg h1,if_pos h2])
    ·rw[if_neg h1,if_neg h2] at he
     (repeat'((conv=>whnf);first|refine Ac ?_|refine NIdx.bytes hx ?_|refine NIdx.bytes hy ?_|(with_reducible refine NInt.i64 ?_)|refine zF ?_|(refine Ai (fun hc hcP=> ?_) (fun hc hcP=> ?_)<;>try(exfalso;omega))));(all_goals(conv=>whnf))
     refine⟨i+1,⟨by omega,by omega,he⟩,by omega,?_⟩
     exact leQ
   ·obtain rfl:i=b.length:=by omega
    (repeat'((conv=>whnf);first|refine Ac ?_|refine At asP ?_|(refine Ai (fun hc hcP=> ?_) (fun hc hcP=> ?_)<;>try(exfalso;omega))));(all_goals(conv=>whnf))
    all_goals(refine B7 rfl (?_:_=_);try simp only[AV.dat])
    all_goals
     rw[he,List.drop_length,List.drop_eq_getElem_cons hia,Ev]
  ·obtain rfl:i=a.length:=by omega
   (repeat'((conv=>whnf);first|refine Ae ?_|(refine Ai (fun hc hcP=> ?_) (fun hc hcP=> ?_)<;>try(exfalso;omega))));(all_goals(conv=>whnf))
   all_goals(refine B7 rfl (?_:_=_);try simp only[AV.dat])
   all_goals
    rw[he,List.drop_length]
    simp only[decide_eq_true_eq,decide_eq_false_iff_not] at*
   ·rw[List.drop_eq_getElem_cons (by omega),Ev]
   ·obtain hl:b.length≤a.length:=by omega
    rw[List.drop_of_length_le hl,Ev]
theorem vX (r:List UInt8):beV ((0:UInt8)::r)=beV r:=by simp[beV]
theorem qN (l:List UInt8) (hl:l.length≤8):Ab Tryz.prog 254 [.d (Ag false l)] (fun r=>r= .tup [.d (.v (.int .u64 (beV l:Nat))),bv true]):=by
 refine acQ 35 Tryz.func254 rfl rfl fun _ _ _=> ?_
 (all_goals(conv=>whnf))
 refine Au (fun rest:List UInt8=>beV rest=beV l∧rest.length≤l.length) (fun rest=>rest.length) (fun rest=>⟨[(0,.d (Ag false rest)),(2,.d (.v (.int .u64 0))),(3,bv false)],[],[]⟩) l ⟨rfl,by omega⟩ leQ ?_
 ·rintro rest ⟨he,hle⟩
  by_cases hz:∃r,rest=0::r
  ·obtain⟨r,rfl⟩:=hz
   have h0:((0:UInt8)::r)[0]?=some 0:=rfl
   simp only[List.length_cons] at hle
   (repeat'((conv=>whnf);first|refine Ac ?_|refine NIdx.bytes h0 ?_|refine Gm (1) ?_|(refine NBr.mk (fun hc=> ?_) (fun hc=> ?_)<;>(have hcP:=hc;(try simp only[zS] at hcP)<;>first|(exfalso;omega)|skip))));(all_goals(conv=>whnf))
   refine⟨r,⟨(vX r).symm.trans he,by omega⟩,by simp,?_⟩
   exact leQ
  ·rcases rest with _|⟨x,r⟩
   ·(repeat'((conv=>whnf);refine Ae ?_));(all_goals(conv=>whnf))
    refine Au (fun _:Unit=>True) (fun _=>0) (fun _=>⟨[(0,.d (Ag false [])),(2,.d (.v (.int .u64 0))),(3,bv false),(4,.d (.v (.int .u64 0))),(5,iv 0)],[],[]⟩) () trivial leQ ?_
    ·rintro _ _
     (repeat'((conv=>whnf);refine Ae ?_));(all_goals(conv=>whnf))
     all_goals(rw[←he];exact zE)
   ·have h0:(x::r)[0]?=some x:=rfl
    have hx0:x.toNat≠0:=fun h=>hz ⟨r,by rw[show x=0 from UInt8.toNat_inj.1 h]⟩
    simp only[List.length_cons] at hle
    (repeat'((conv=>whnf);first|refine Ac ?_|refine NIdx.bytes h0 ?_|(refine NBr.mk (fun hc=> ?_) (fun hc=> ?_)<;>(have hcP:=hc;(try simp only[zS] at hcP)<;>first|(exfalso;omega)|skip))));(all_goals(conv=>whnf))
    refine Au (fun i:Nat=>i≤r.length+1) (fun i=>r.length+1-i) (fun i=>⟨[(0,.d (Ag false (x::r))),(2,.d (.v (.int .u64 0))),(3,bv false),(4,.d (.v (.int .u64 (beV ((x::r).take i):Nat)))),(5,iv i)],[],[]⟩) 0 (by omega) leQ ?_
    ·intro i hi
     by_cases hik:i<r.length+1
     ·have hik':i<(x::r).length:=by rw[List.length_cons];exact hik
      obtain⟨b,hb⟩:∃b,(x::r)[i]?=some b:=⟨_,List.getElem?_eq_getElem hik'⟩
      have hsn:beV ((x::r).take (i+1))=beV ((x::r).take i)*256+b.toNat:=by
       have hg:=List.getElem?_eq_getElem hik'
       rw[hb] at hg
       rw[List.take_succ_eq_append_getElem hik',O0]
       cases hg;rfl
      have hbt:=b.toNat_lt
      have hB:beV ((x::r).take i)<256^7:=by
       refine Nat.lt_of_lt_of_le (iW _) (Nat.pow_le_pow_right (by omega) ?_)
       rw[List.length_take];omega
      (repeat'((conv=>whnf);first|refine NIdx.bytes hb ?_|(with_reducible refine NInt.i64 ?_)|(with_reducible refine NInt.u64 ?_)|(refine NBr.mk (fun hc=> ?_) (fun hc=> ?_)<;>(have hcP:=hc;(try simp only[zS] at hcP)<;>first|(exfalso;omega)|skip))));(all_goals(conv=>whnf))
      refine⟨i+1,by omega,by omega,?_⟩
      rw[hsn]
      exact leQ
     ·obtain rfl:i=r.length+1:=by omega
      have ht:(x::r).take (r.length+1)=x::r:=List.take_length (l:=x::r)
      rw[ht,he]
      (repeat'((conv=>whnf);(refine NBr.mk (fun hc=> ?_) (fun hc=> ?_)<;>(have hcP:=hc;(try simp only[zS] at hcP)<;>first|(exfalso;omega)|skip))));(all_goals(conv=>whnf))
      all_goals exact zE
      all_goals rfl
def Fk (n:Nat):List UInt8:=if n<128 then Ji n else UInt8.ofNat (128+(Ji n).length)::Ji n
theorem cO (n:Nat) (hn:n≤2147483647):Ab Tryz.prog 96 [iv n] (fun r=>r= .tup [A4 0 5 (Fk n),iv 0]):=by
 have hM:=vW n (by omega)
 have hL:=Ik 3 n (by omega)
 by_cases h:n<128
 ·rw[Fk,if_pos h]
  refine acQ 24 Tryz.func96 rfl rfl fun _ _ _=> ?_
  (repeat'((conv=>whnf);first|refine Ae ?_|refine Aa hM rfl ?_|(with_reducible refine NInt.u64 ?_)|(refine NBr.mk (fun hc=> ?_) (fun hc=> ?_)<;>(have hcP:=hc;(try simp only[zS] at hcP)<;>first|(exfalso;omega)|skip))|exact zE))
  all_goals rfl
 ·rw[Fk,if_neg h]
  refine acQ 24 Tryz.func96 rfl rfl fun _ _ _=> ?_
  (repeat'((conv=>whnf);first|refine Ae ?_|refine Aa hM rfl ?_|(with_reducible refine Bd (128+(Ji n).length) ?_)|refine Oy ([UInt8.ofNat (128+(Ji n).length)]) ?_|(with_reducible refine NInt.i64 ?_)|(with_reducible refine NInt.u64 ?_)|(refine NBr.mk (fun hc=> ?_) (fun hc=> ?_)<;>(have hcP:=hc;(try simp only[zS] at hcP)<;>first|(exfalso;omega)|skip))|exact zE))
  all_goals rfl
theorem Kq (x:UInt8):UInt8.ofNat x.toNat=x:=UInt8.toNat_inj.1 (by rw[UInt8.toNat_ofNat'];have:=x.toNat_lt;omega)
theorem cP (x:UInt8) (hx:x.toNat≠0):∀(k:Nat) (r:List UInt8),r.length=k→Ji (beV (x::r))=x::r∧1≤beV (x::r):=by
 intro k
 induction k with
 |zero=>
  intro r hr
  rw[List.length_eq_zero_iff] at hr
  subst hr
  have:=x.toNat_lt
  have hb:beV [x]=x.toNat:=by simp[beV]
  rw[hb,Cv (by omega),Kq]
  exact⟨rfl,by omega⟩
 |succ k ih=>
  intro r hr
  obtain⟨s,b,rfl⟩:∃s b,r=s++[b]:=⟨r.dropLast,r.getLast (by intro h;simp[h] at hr),(List.dropLast_concat_getLast _).symm⟩
  have hs:s.length=k:=by simp at hr;omega
  obtain⟨h1,h2⟩:=ih s hs
  have hb:=b.toNat_lt
  have he:beV (x::(s++[b]))=beV (x::s)*256+b.toNat:=by rw[←List.cons_append,O0]
  rw[he,H6 (by omega),show(beV (x::s)*256+b.toNat)/256=beV (x::s) by omega,show(beV (x::s)*256+b.toNat)%256=b.toNat by omega,h1,Kq]
  exact⟨by simp,by omega⟩
theorem Qh:∀(k n:Nat),n<256^(k+1)→1≤n→∃y s,Ji n=y::s∧y.toNat≠0
 |0,n,h,h1=>⟨_,_,Cv (by omega),by rw[UInt8.toNat_ofNat'];omega⟩
 |k+1,n,h,h1=>by
  by_cases h2:n<256
  ·exact⟨_,_,Cv h2,by rw[UInt8.toNat_ofNat'];omega⟩
  ·obtain⟨y,s,e1,e2⟩:=Qh k (n/256) (by rw[Nat.pow_succ] at h;omega) (by omega)
   exact⟨y,s++[UInt8.ofNat (n%256)],by rw[H6 h2,e1];rfl,e2⟩
theorem lZ:∀{a b:List UInt8},Ev a b=0↔a=b
 |[],[]=>by simp[Ev]
 |[],_::_=>by simp[Ev]
 |_::_,[]=>by simp[Ev]
 |x::r,y::s=>by
  rw[Ev]
  by_cases h1:x.toNat<y.toNat
  ·rw[if_pos h1]
   refine⟨fun h=>by omega,fun h=> ?_⟩
   rw[List.cons.injEq] at h
   rw[h.1] at h1;omega
  rw[if_neg h1]
  by_cases h2:y.toNat<x.toNat
  ·rw[if_pos h2]
   refine⟨fun h=>by omega,fun h=> ?_⟩
   rw[List.cons.injEq] at h
   rw[h.1] at h2;omega
  rw[if_neg h2,lZ,List.cons.injEq]
  exact⟨fun h=>⟨UInt8.toNat_inj.1 (by omega),h⟩,fun h=>h.2⟩
theorem vY {x y:UInt8} {s:List UInt8} {k:Nat} (hk:x.toNat=k+128) (hs:s.length+1=k) (h4:k≤4) (hn:beV (y::s)≤2147483647):Ev (Fk (beV (y::s))) (x::y::s)=0↔y.toNat≠0∧128≤beV (y::s):=by
 rw[lZ]
 constructor
 ·intro h
  by_cases h1:beV (y::s)<128
  ·rw[Fk,if_pos h1,Cv (by omega)] at h
   simp at h
  ·rw[Fk,if_neg h1,List.cons.injEq] at h
   obtain⟨y',s',e1,e2⟩:=Qh 3 (beV (y::s)) (by omega) (by omega)
   rw[e1,List.cons.injEq] at h
   exact⟨by rw[←h.2.1];exact e2,by omega⟩
 ·rintro⟨h1,h2⟩
  have h3:=(cP y h1 _ s rfl).1
  rw[Fk,if_neg (by omega),h3,List.cons.injEq]
  refine⟨UInt8.toNat_inj.1 ?_,rfl⟩
  rw[UInt8.toNat_ofNat',hk,List.length_cons,hs];omega
theorem J3 (n:Nat) (h:n≤2147483647):1≤(Fk n).length∧(Fk n).length≤5:=by
 have:=Ik 3 n (by omega)
 unfold Fk
 split
 ·omega
 ·simp only[List.length_cons];omega
theorem Yy (l:List UInt8) (hl:l.length≤1000000000):Ab Tryz.prog 246 [.d (Ag false l)] (fun r=>r=rlA (rlS l)):=by
 cases l with
 |nil=>
  refine acQ 73 Tryz.func246 rfl rfl fun _ _ _=> ?_
  (repeat'((conv=>whnf);refine Ac ?_));(all_goals(conv=>whnf))
  all_goals exact zE
  all_goals rfl
 |cons x r=>
  have hx:=x.toNat_lt
  have h0:(x::r)[0]?=some x:=rfl
  simp only[List.length_cons] at hl
  by_cases h1:x.toNat<128
  ·rw[Mk h1]
   refine acQ 73 Tryz.func246 rfl rfl fun _ _ _=> ?_
   (repeat'((conv=>whnf);first|refine Ae ?_|refine NIdx.bytes h0 ?_|(with_reducible refine NInt.i64 ?_)|(refine NBr.mk (fun hc=> ?_) (fun hc=> ?_)<;>(have hcP:=hc;(try simp only[zS] at hcP)<;>first|(exfalso;omega)|skip))|exact zE))
   all_goals rfl
  by_cases h2:x.toNat=128∨x.toNat>132
  ·rw[To (by omega) h2]
   refine acQ 73 Tryz.func246 rfl rfl fun _ _ _=> ?_
   (repeat'((conv=>whnf);first|refine Ac ?_|refine Ae ?_|refine NIdx.bytes h0 ?_|(with_reducible refine NInt.i64 ?_)|(refine NBr.mk (fun hc=> ?_) (fun hc=> ?_)<;>(have hcP:=hc;(try simp only[zS] at hcP)<;>first|(exfalso;omega)|skip))|exact zE))
   all_goals rfl
  obtain⟨k,hk⟩:∃k:Nat,x.toNat=k+128:=⟨x.toNat-128,by omega⟩
  by_cases h3:r.length<k
  ·rw[Qf (by omega) (by omega) (by omega)]
   refine acQ 73 Tryz.func246 rfl rfl fun _ _ _=> ?_
   (repeat'((conv=>whnf);first|refine Ae ?_|refine NIdx.bytes h0 ?_|(with_reducible refine NInt.i64 ?_)|(refine NBr.mk (fun hc=> ?_) (fun hc=> ?_)<;>(have hcP:=hc;(try simp only[zS] at hcP)<;>first|(exfalso;omega)|skip))|exact zE))
   all_goals rfl
  ·cases r with
   |nil=>simp only[List.length_nil] at*;omega
   |cons y s=>
    simp only[List.length_cons] at hl h3
    obtain⟨j,rfl⟩:∃j,k=j+1:=⟨k-1,by omega⟩
    have hT:(y::s).take (j+1)=y::s.take j:=rfl
    have hlj:(s.take j).length=j:=by rw[List.length_take];omega
    have hU:=qN (y::s.take j) (by rw[List.length_cons,hlj];omega)
    have hbv:=iW (y::s.take j)
    rw[List.length_cons,hlj] at hbv
    have hb32:beV (y::s.take j)<4294967296:=Nat.lt_of_lt_of_le hbv (Nat.le_trans (Nat.pow_le_pow_right (by omega) (show j+1≤4 by omega)) (by decide))
    by_cases h5:beV (y::s.take j)>2147483647
    ·rw[Sa hk (by omega) (by omega) (by omega) (Or.inr (Or.inr h5))]
     refine acQ 73 Tryz.func246 rfl rfl fun _ _ _=> ?_
     (repeat'((conv=>whnf);first|refine Ae ?_|refine NIdx.bytes h0 ?_|refine Aa hU gvQ ?_|refine NSl.slice (1) (j+2) ?_|(with_reducible refine NInt.i64 ?_)|(refine NBr.mk (fun hc=> ?_) (fun hc=> ?_)<;>(have hcP:=hc;(try simp only[zS] at hcP)<;>first|(exfalso;omega)|skip))|exact zE))
     all_goals rfl
    ·have hL:=cO (beV (y::s.take j)) (by omega)
     have hLl:=J3 (beV (y::s.take j)) (by omega)
     have hC:=cN (Fk (beV (y::s.take j))) (x::y::s.take j) (by omega) (by simp only[List.length_cons,hlj];omega)
     have hI:=vY (y:=y) (s:=s.take j) hk (by rw[hlj]) (by omega) (by omega)
     by_cases h6:y.toNat≠0∧128≤beV (y::s.take j)
     ·rw[Yx hk (by omega) (by omega) (by omega) (by rw[hT];omega),hT]
      have h7:=hI.2 h6
      rw[h7] at hC
      refine acQ 73 Tryz.func246 rfl rfl fun _ _ _=> ?_
      (repeat'((conv=>whnf);first|refine Ae ?_|refine NIdx.bytes h0 ?_|refine Aa hU gvQ ?_|refine Aa hL rfl ?_|refine Aa hC gvQ ?_|refine cD (j+2) ?_|refine NSl.slice (1) (j+2) ?_|(with_reducible refine NInt.i64 ?_)|(refine NBr.mk (fun hc=> ?_) (fun hc=> ?_)<;>(have hcP:=hc;(try simp only[zS] at hcP)<;>first|(exfalso;omega)|skip))|exact zE))
     ·rw[Sa hk (by omega) (by omega) (by omega) (by rw[hT];omega)]
      have h7:¬Ev (Fk (beV (y::s.take j))) (x::y::s.take j)=0:=fun h=>h6 (hI.1 h)
      refine acQ 73 Tryz.func246 rfl rfl fun _ _ _=> ?_
      (repeat'((conv=>whnf);first|refine Ae ?_|refine NIdx.bytes h0 ?_|refine Aa hU gvQ ?_|refine Aa hL rfl ?_|refine Aa hC gvQ ?_|refine cD (j+2) ?_|refine NSl.slice (1) (j+2) ?_|(with_reducible refine NInt.i64 ?_)|(refine NBr.mk (fun hc=> ?_) (fun hc=> ?_)<;>(have hcP:=hc;(try simp only[zS] at hcP)<;>first|(exfalso;omega)|skip))|exact zE))
      all_goals rfl
theorem cQ {x:UInt8} (h:x.toNat%32=31):Ab Tryz.prog 245 [cv x.toNat] (fun r=>r= .tup [iv 0,bv false,iv 0,iv 3]):=by
 have hx:=x.toNat_lt
 refine acQ 20 Tryz.func245 rfl rfl fun _ _ _=> ?_
 (repeat'((conv=>whnf);first|(with_reducible refine NInt.i64 ?_)|(with_reducible refine Bh ?_)|refine Ar (by first|decide|omega|(simp only[List.length_cons,List.length_nil];omega)) ?_|(refine Ai (fun hc hcP=> ?_) (fun hc hcP=> ?_)<;>try(exfalso;omega))|exact zE))
 all_goals rfl
theorem iY {x:UInt8} (h:¬x.toNat%32=31):Ab Tryz.prog 245 [cv x.toNat] (fun r=>r= .tup [iv (x.toNat/64:Nat),bv (x.toNat/32%2==1),iv (x.toNat%32:Nat),iv 0]):=by
 have hx:=x.toNat_lt
 refine acQ 20 Tryz.func245 rfl rfl fun _ _ _=> ?_
 (repeat'((conv=>whnf);first|(with_reducible refine NInt.i64 ?_)|(with_reducible refine B5 ?_)|(with_reducible refine Bh ?_)|refine Ar (by first|decide|omega|(simp only[List.length_cons,List.length_nil];omega)) ?_|(refine Ai (fun hc hcP=> ?_) (fun hc hcP=> ?_)<;>try(exfalso;omega))));(all_goals(conv=>whnf))
 all_goals(refine Az ?_;(repeat'(first|exact trivial|exact By _|refine And.intro ?_ ?_|exact rfl));(all_goals(conv=>whnf)))
 all_goals(rw[←Hi];rfl)
theorem V2 (l:List UInt8) (hl:l.length≤1000000000):Ab Tryz.prog 227 [.d (Ag false l)] (fun r=>r=rhA (rhS l)):=by
 cases l with
 |nil=>
  refine acQ 55 Tryz.func227 rfl rfl fun _ _ _=> ?_
  (repeat'((conv=>whnf);refine Ac ?_));(all_goals(conv=>whnf))
  all_goals exact zE
  all_goals rfl
 |cons x r=>
  have hx:=x.toNat_lt
  have h0:(x::r)[0]?=some x:=rfl
  simp only[List.length_cons] at hl
  obtain⟨b1,b2,b3,b4,b5⟩:=Nx r
  by_cases h31:x.toNat%32=31
  ·refine acQ 55 Tryz.func227 rfl rfl fun _ _ _=> ?_
   (repeat'((conv=>whnf);first|refine Ac ?_|refine Ae ?_|refine Aa (cQ h31) rfl ?_|refine NIdx.bytes h0 ?_));(all_goals(conv=>whnf))
   all_goals(rw[rhS,if_pos h31];exact zE)
  ·refine acQ 55 Tryz.func227 rfl rfl fun _ _ _=> ?_
   (repeat'((conv=>whnf);first|refine Ae ?_|refine Aa (iY h31) rfl ?_|refine Aa (Yy r (by omega)) gvQ ?_|refine NIdx.bytes h0 ?_|refine Gm (1) ?_|(with_reducible refine NInt.i64 ?_)|refine zF ?_|(refine Cj (fun hc hcP=> ?_) (fun hc hcP=> ?_)<;>try(exfalso;omega))));(all_goals(conv=>whnf))
   ·have hz:¬(rlS r).2.2.1=0:=by omega
    rw[rhS,if_neg h31,if_neg hz];exact zE
   ·have hz:(rlS r).2.2.1=0:=by omega
    rw[rhS,if_neg h31,if_pos hz];exact zE
def iZ (l:List UInt8):AV:=
 if(rhS l).code≠0 then .tup [hdA (.bad 0 0),Ax,Ax,erA (rhS l).code (rhS l).off]
 else if l.length<(rhS l).size+(rhS l).len then .tup [hdA (.bad 0 0),Ax,Ax,erA 1 l.length]
 else .tup [hdA (rhS l),.d (Ag false ((l.drop (rhS l).size).take (rhS l).len)),.d (Ag false (l.drop ((rhS l).size+(rhS l).len))),erA 0 0]
theorem qO (l:List UInt8) (hl:l.length≤1000000000):Ab Tryz.prog 205 [.d (Ag false l)] (fun r=>r=iZ l):=by
 have hR:=V2 l hl
 have hB:=D4 l
 unfold iZ
 generalize hh:rhS l=h at hR hB⊢
 obtain⟨c1,c2,c3,c4,c5,c6,c7⟩:=hB
 by_cases k1:h.code=0
 ·have c1':=c1 k1
  by_cases k2:l.length<h.size+h.len
  ·rw[if_neg (by omega),if_pos k2]
   refine acQ 48 Tryz.func205 rfl rfl fun _ _ _=> ?_
   (repeat'((conv=>whnf);first|refine Aa hR gvQ ?_|(with_reducible refine NInt.i64 ?_)|(refine Ai (fun hc hcP=> ?_) (fun hc hcP=> ?_)<;>try(exfalso;omega))|(refine Cj (fun hc hcP=> ?_) (fun hc hcP=> ?_)<;>try(exfalso;omega))|exact zE))
   all_goals rfl
  ·rw[if_neg (by omega),if_neg k2]
   refine acQ 48 Tryz.func205 rfl rfl fun _ _ _=> ?_
   (repeat'((conv=>whnf);first|refine Aa hR gvQ ?_|(refine NSl.bytes h.size (h.size+h.len) ((l.drop h.size).take h.len) (by rw[Nat.add_sub_cancel_left]) ?_)|refine Gm (h.size+h.len) ?_|(with_reducible refine NInt.i64 ?_)|refine zF ?_|(refine Ai (fun hc hcP=> ?_) (fun hc hcP=> ?_)<;>try(exfalso;omega))|(refine Cj (fun hc hcP=> ?_) (fun hc hcP=> ?_)<;>try(exfalso;omega))|exact zE))
 ·rw[if_pos k1]
  refine acQ 48 Tryz.func205 rfl rfl fun _ _ _=> ?_
  (repeat'((conv=>whnf);first|refine Aa hR gvQ ?_|refine zF ?_|(refine Cj (fun hc hcP=> ?_) (fun hc hcP=> ?_)<;>try(exfalso;omega))|exact zE))
  all_goals rfl
def Iz (x:UInt8) (c:List UInt8):List UInt8:=x::(Fk c.length++c)
theorem C3 (x:UInt8) (c:List UInt8) (hl:c.length≤900000000):Ab Tryz.prog 66 [cv x.toNat,.d (Ag false c)] (fun r=>r=A4 0 5 (Iz x c)):=by
 have hM:=cO c.length (by omega)
 have hL:=J3 c.length (by omega)
 refine acQ 19 Tryz.func66 rfl rfl fun _ _ _=> ?_
 (repeat'((conv=>whnf);first|refine Aa hM rfl ?_|refine Oy ([x]) ?_|(with_reducible refine NApp.bytes ?_)|exact zE))
 all_goals rfl
def Ny (b:UInt8):Value:= .int .u8 b.toNat
def O2 (k:Nat) (e:TypeId) (l m:List UInt8) (tm tm':List (Nat×AV)):Prop:=
 ∀t u,lk t tm'=some u→(∃x,u= .d (.v x)∧lk t tm=some u)∨(u=A4 k e m∧lk t tm=some (A4 k e l))
theorem O2.nil {k:Nat} {e:TypeId} {l m:List UInt8} {tm:List (Nat×AV)}:O2 k e l m tm []:=fun t u h=>by cases h
theorem O2.v {k s:Nat} {e:TypeId} {l m:List UInt8} {tm r:List (Nat×AV)} {x:Value} (h:lk s tm=some (.d (.v x))) (hr:O2 k e l m tm r):O2 k e l m tm ((s,.d (.v x))::r):=fun t u hu=>by
 by_cases e:s=t
 ·subst e;rw[Bf] at hu;cases hu;exact .inl ⟨x,rfl,h⟩
 ·rw[Bw _ _ e] at hu;exact hr t u hu
theorem O2.own {k s:Nat} {e:TypeId} {l m:List UInt8} {tm r:List (Nat×AV)} (h:lk s tm=some (A4 k e l)) (hr:O2 k e l m tm r):O2 k e l m tm ((s,A4 k e m)::r):=fun t u hu=>by
 by_cases e:s=t
 ·subst e;rw[Bf] at hu;cases hu;exact .inr ⟨rfl,h⟩
 ·rw[Bw _ _ e] at hu;exact hr t u hu
theorem vZ {B:Nat} {fp:Nat→Nat→Prop} {w:World} {l:List UInt8} {g c:Nat} (h1:l.length≤c) (h2:c≤maxLen) (hB:B≤g) (hfp:∀i,i<l.length→fp g i) (hc:∀i b,l[i]?=some b→w.cell? ⟨g,i,none⟩=some (Ny b)):Rd B fp w (.sl true l.length 1 (Am l)) (.slice (some ⟨g,0,none⟩) l.length c):=by
 refine .sl (l.map Ny) h1 h2 (by rw[Co];omega) (by rw[Co,List.length_map]) (fun h=>by cases h) (fun u hu=> ?_) (fun i d u hd hu=> ?_) (fun i u hu=> ?_)
 ·obtain⟨b,-,rfl⟩:=List.mem_map.1 hu
  rfl
 ·rw[G0,Option.map_eq_some_iff] at hd
  rw[List.getElem?_map,Option.map_eq_some_iff] at hu
  obtain⟨b,hb,rfl⟩:=hd
  obtain⟨b',hb',rfl⟩:=hu
  rw[hb] at hb';cases hb'
  exact .v _
 ·rw[List.getElem?_map,Option.map_eq_some_iff] at hu
  obtain⟨b,hb,rfl⟩:=hu
  have hlt:=(List.getElem?_eq_some_iff.1 hb).1
  exact⟨g,0,rfl,by rw[Nat.zero_add];exact hfp i hlt,fun _=>hB,by rw[Nat.zero_add];exact hc i b hb⟩
section
variable {P:Program} {C:Cx} {o:Oper} {σ:AS} {t:Nat}
theorem cR {ρ:Go.Shelf.Ren} (L:SlLaysE.n35 P ρ) {e:TypeId} {x:Operand} {ats:Array TypeId} {k:Nat} {l:List UInt8} {tm':List (Nat×AV)} (hcall:∀vs w,(callFunc (ρ.f 35) vs).run P w= .ok (.enter (ρ.f 35) vs) w) (ho:o.op= .call {callee:= .value (.func (ρ.f 35)),args:=#[x],argTypes:=ats}) (hd:o.dst=some t) (ht:t<C.N)
 (hx:σ.eval x=some (A4 k e l)) (hk:lk k σ.tk=some (l.length,1,e)) (h0:0<l.length) (hl:l.length≤1000000000) (hp:O2 k e l l.reverse σ.tm tm') (htt:lk t tm'=none):
 Bl P C o σ ⟨tm',[],[(k,l.reverse.length,1,e)]⟩:=by
 rw[List.length_reverse]
 rintro a w ⟨bm,gt,fp,hg⟩ K Q hK
 have h1:=hg.eval hx
 generalize hv:a.eval x=v at h1
 cases h1 with
 |own h1=>
  obtain⟨xs,hxs,hown⟩:=(hg.tk k _ _ _ hk).own
  have hby:=h1.bytes
  rcases hown with⟨hvn,hn⟩|⟨g,cap,cur,hvg,hBg,hheap,hnc,hcm,hcs,htk⟩
  ·omega
  have hcell:∀i b,l[i]?=some b→w.cell? ⟨g,i,none⟩=some (Ny b):=fun i b hb=>by
   obtain⟨a',c',e1,-,-,-,e2⟩:=hby
   obtain⟨b',o',e3,-,e4⟩:=e2 i (Ny b) (by rw[Fo,hb];rfl)
   rw[hvg] at e1
   cases e1
   cases e3
   rw[Nat.zero_add] at e4
   exact e4
  have hH:Sort.Holds Ny w g 0 l.toArray:=fun j hj=>by
   have hj':j<l.length:=by simpa using hj
   refine⟨?_,frozen_of_row w g _ cur e hheap⟩
   rw[Nat.zero_add,hcell j l[j] (List.getElem?_eq_getElem hj')]
   rw[getElem!_pos l.toArray j hj]
   simp
  have hR:=AnyE.slices_Reverse L Ny (fun _=>rfl) g 0 cap l w hH (by omega)
  have hrun:(execOp a.eval o).run P w= .ok (.enter (ρ.f 35) #[gt k]) w:=by
   have hf:∀f:FuncId,(Operand.func f:Operand)= .func f:=fun _=>rfl
   simp only[execOp,ho,resolve,Deferred.ofValue,Act.eval,invoke,Sem.run_bind,Sem.run_pure,Result.andThen_ok,hcall]
   simp[hv]
  unfold Oper.wp
  rw[hrun,Oper.upon_enter,hvg]
  refine hR.mono ?_
  rintro e' w' ⟨rfl,m,rfl⟩
  simp only[]
  rw[hd]
  refine hK _ _ ⟨⟨bm.m,C.z0⟩,gt,fun b o'=>(C.fp0 b o'∨C.z0 b o')∨(b=g∧o'<l.length),?_⟩
  have hgs:g<w.heap.size:=(Array.getElem?_eq_some_iff.1 hheap).1
  have hblk:∀b,b≠g→(Sort.putRow Ny (Sort.ahead w m) g 0 l.reverse.toArray).heap[b]?=w.heap[b]?:=fun b hb=>by
   simp only[Sort.putRow,Sort.mapBlock,Array.getElem?_modify,Sort.heap_ahead]
   rw[if_neg (Ne.symm hb)]
  have hself:(Sort.putRow Ny (Sort.ahead w m) g 0 l.reverse.toArray).heap[g]?=some (.cells (Sort.putCells Ny 0 l.reverse.toArray cur) e (0,0)):=by
   simp only[Sort.putRow,Sort.mapBlock,Array.getElem?_modify,Sort.heap_ahead,hheap,if_true]
   rfl
  have hnew:∀i b,l.reverse[i]?=some b→(Sort.putRow Ny (Sort.ahead w m) g 0 l.reverse.toArray).cell? ⟨g,i,none⟩=some (Ny b):=fun i b hb=>by
   have hi:i<l.reverse.length:=(List.getElem?_eq_some_iff.1 hb).1
   have:=Sort.cell?_putRow Ny (Sort.ahead w m) g 0 l.toArray l.reverse.toArray (Sort.holds_ahead Ny w m g 0 _ hH) (by simp) i (by simpa using hi)
   rw[Nat.zero_add] at this
   rw[this,getElem!_pos l.reverse.toArray i (by simpa using hi)]
   have h2:=(List.getElem?_eq_some_iff.1 hb).2
   simp at h2⊢
   rw[h2]
  have hlen:l.reverse.length=l.length:=by simp
  have hRd:Rd C.W.heap.size (fun b o'=>(C.fp0 b o'∨C.z0 b o')∨(b=g∧o'<l.length)) (Sort.putRow Ny (Sort.ahead w m) g 0 l.reverse.toArray) (.sl true l.reverse.length 1 (Am l.reverse)) (gt k):=by
   have:=vZ (l:=l.reverse) (fp:=fun b o'=>(C.fp0 b o'∨C.z0 b o')∨(b=g∧o'<l.length)) (by rw[hlen];exact hnc) hcm hBg (fun i hi=> .inr ⟨rfl,by rw[hlen] at hi;exact hi⟩) hnew
   rw[hvg]
   rw[hlen] at this⊢
   exact this
  refine{sz:=by simp[Act.put,hg.sz],nN:=hg.nN,gd:=hg.gd,za:=fun _ _ x=>x,zb:=fun _ _ x=> .inl x,zf:=fun _ _ x=> .inl (.inr x),ztk:=fun k' x hk' g' hg' o' hz=> ?_,df:=hg.df,tm:=fun s u hu=> ?_,bx:=fun k' cs hk'=>(by cases hk'),bxi:=fun k1 k2 c1 c2 hk1=>(by cases hk1),tk:=fun k' n' sz' e' hk'=> ?_,tki:=fun k1 k2 x1 x2 hk1 hk2 _ _=> ?_,tkb:=fun k1 k2 x1 c1 hk1 hk2=>(by cases hk2),fpb:=fun b o' hf=> ?_,fp0:=fun b o' hf=> .inl (.inl hf),fpB:=hg.fpB,bel:= ?_}
  ·by_cases ek:k=k'
   ·subst ek
    exact hg.ztk k _ hk g' hg' o' (hg.za g' o' hz)
   ·rw[Bw _ _ ek] at hk';cases hk'
  ·have hst:s≠t:=fun h=>by subst h;rw[htt] at hu;cases hu
   rcases hp s u hu with⟨x0,rfl,h2⟩|⟨rfl,h2⟩
   ·obtain⟨v0,h3,h4⟩:=hg.tm s _ h2
    refine⟨v0,by rw[←h3];simp only[Cx.val,Act.put];rw[Array.getElem?_setIfInBounds_ne (Ne.symm hst)],?_⟩
    rw[h4.val];exact .d (.v _)
   ·obtain⟨v0,h3,h4⟩:=hg.tm s _ h2
    refine⟨v0,by rw[←h3];simp only[Cx.val,Act.put];rw[Array.getElem?_setIfInBounds_ne (Ne.symm hst)],?_⟩
    cases h4 with
    |own h4=>exact .own hRd
  ·by_cases ek:k=k'
   ·subst ek
    rw[Bf] at hk'
    cases hk'
    refine⟨⟨(Sort.putCells Ny 0 l.reverse.toArray cur).toList.take (l.length*1),?_,.inr ⟨g,cap,_,hvg,hBg,hself,hnc,hcm,?_,rfl⟩⟩,?_⟩
    ·rw[List.length_take];simp[Sort.putCells,hcs];omega
    ·simp[Sort.putCells,hcs]
    ·intro g' hg' o' ho'
     rw[hvg] at hg'
     cases hg'
     rintro((hf|hf)|⟨-,hf⟩)
     ·have h9:g<C.W.heap.size:=hg.fpB _ _ hf
      omega
     ·exact hg.ztk k _ hk g (by rw[hvg];rfl) _ (hg.za _ _ hf)
     ·omega
   ·rw[Bw _ _ ek] at hk';cases hk'
  ·by_cases e1:k=k1
   ·by_cases e2:k=k2
    ·exact e1.symm.trans e2
    ·rw[Bw _ _ e2] at hk2;cases hk2
   ·rw[Bw _ _ e1] at hk1;cases hk1
  ·rcases hf with(hf|hf)|⟨rfl,hf⟩
   ·exact⟨.inl hf,by have:=hg.fpB _ _ hf;have:=hg.bel.size;rw[Sort.size_putRow,Sort.heap_ahead];omega⟩
   ·have:=hg.fpb _ _ (hg.zf _ _ (hg.za _ _ hf))
    exact⟨this.1,by rw[Sort.size_putRow,Sort.heap_ahead];exact this.2⟩
   ·exact⟨.inr hBg,by rw[Sort.size_putRow,Sort.heap_ahead];exact hgs⟩
  ·refine hg.bel.trans ⟨rfl,rfl,rfl,by rw[Sort.size_putRow,Sort.heap_ahead];exact Nat.le_refl _,fun b hb=>hblk b (by omega)⟩
end
def cS (n:Nat):List UInt8:=UInt8.ofNat n::(if n<256 then [] else cS (n/256))
termination_by n
decreasing_by omega
theorem cT:∀n,(cS n).reverse=Ji n:=by
 intro n
 induction n using Nat.strongRecOn with
 |ind n ih=>
  rw[cS]
  by_cases h:n<256
  ·rw[if_pos h,Cv h];rfl
  ·rw[if_neg h,H6 h,List.reverse_cons,ih (n/256) (by omega)]
   congr 2
   exact UInt8.toNat_inj.1 (by rw[UInt8.toNat_ofNat',UInt8.toNat_ofNat'];omega)
theorem CV {k:Nat} (n:Nat) {m:Int} {b:Nat} (hm:min m.toNat b=k):(n:Int).fdiv (2^(min m.toNat b))=((n/2^k:Nat):Int):=by
 have h2:(0:Int)≤2^k:=Int.le_of_lt (Int.pow_pos (by decide))
 rw[hm,Int.fdiv_eq_ediv_of_nonneg _ h2,Int.natCast_ediv,Int.natCast_pow]
 rfl
def wA (q:Nat):List UInt8:=if q=0 then [] else cS q
theorem Wz (n:Nat):cS n=UInt8.ofNat n::wA (n/256):=by
 rw[cS,wA]
 by_cases h:n<256
 ·rw[if_pos h,if_pos (by omega)]
 ·rw[if_neg h,if_neg (by omega)]
theorem CW (n:Nat) (hn:n≤18446744073709551615):Ab Tryz.prog 126 [.d (.v (.int .u64 (n:Int)))] (fun r=>r=A4 0 5 (Ji n)):=by
 have hlen:(cS n).length≤8:=by rw[←List.length_reverse,cT];exact(Ik 7 n (by omega)).2
 refine acQ 21 Tryz.func126 rfl rfl fun _ _ _=> ?_
 (repeat'((conv=>whnf);first|(with_reducible refine J2 ?_)|(with_reducible refine NInt.shr ?_)|refine Ar (by first|decide|omega|(simp only[List.length_cons,List.length_nil];omega)) ?_));(all_goals(conv=>whnf))
 refine Au (fun p:Nat×List UInt8=>p.1≤18446744073709551615∧0<p.2.length∧p.2++wA p.1=cS n) (fun p=>p.1) (fun p=>⟨[(0,.d (.v (.int .u64 (p.1:Int)))),(2,Ax),(3,A4 6 5 p.2)],[],[(6,(p.2.length,1,5))]⟩) (n/2^8,[UInt8.ofNat n]) ⟨by simp only[];omega,by simp,(by rw[Wz n];rfl)⟩ leQ ?_
 ·rintro⟨q,acc⟩ ⟨hq,ha,he⟩
  simp only[] at hq ha he
  by_cases h0:q=0
  ·subst h0
   rw[wA,if_pos rfl,List.append_nil] at he
   have hal:acc.length≤8:=by rw[he];exact hlen
   (repeat'((conv=>whnf);refine Ae ?_));(all_goals(conv=>whnf))
   refine An (cR (l:=acc) (tm':=[(2,Ax),(3,A4 6 5 acc.reverse)]) Tryz.laysRev (Lp Tryz.func148 (by kernel_rfl) rfl) rfl rfl (ltN rfl) rfl rfl ha (by omega) (.v rfl (.own rfl .nil)) rfl) ?_
   (all_goals(conv=>whnf))
   rw[←cT,←he]
   exact zE
  ·rw[wA,if_neg h0,Wz] at he
   have hal:acc.length≤7:=by
    have:=congrArg List.length he
    simp only[List.length_append,List.length_cons] at this
    omega
   (repeat'((conv=>whnf);first|(with_reducible refine J2 ?_)|refine H5 (_) ?_|(with_reducible refine NInt.shr ?_)|refine Ar (by first|decide|omega|(simp only[List.length_cons,List.length_nil];omega)) ?_|(refine Ai (fun hc hcP=> ?_) (fun hc hcP=> ?_)<;>try(exfalso;omega))));(all_goals(conv=>whnf))
   refine⟨(q/2^8,acc++[UInt8.ofNat q]),⟨by simp only[];omega,by simp,by rw[List.append_assoc];exact he⟩,by simp only[];omega,?_⟩
   exact leQ
theorem wB (n:Nat) (hn:n≤1000000000):Ab Tryz.prog 95 [Ax,iv n] (fun r=>r=A4 0 5 []):=by
 refine⟨Lp Tryz.func95 (by kernel_rfl) rfl,fun w fp0 z0 vs _ h0 hz hargs=> ?_⟩
 match vs,hargs with
 |[v1,v2],⟨a1,a2,_⟩=>
  rw[a1.val,a2.val]
  by_cases h:n=0
  ·subst h
   refine(Any8.slices_Grow_room Tryz.laysGrow none 0 0 0 w (Nat.le_refl _) (by omega) (by omega) (by omega)).mono ?_
   rintro e w' ⟨rfl,rfl⟩
   exact⟨_,_,rfl,rfl,Below.refl _ _,rfl,fp0,fun _=> .slice none 0 0,z0,fun b o hf=>⟨.inl hf,h0 b o hf⟩,.own (F3 true 1),fun n' sz' e' ht=>by cases ht;exact⟨⟨⟨[],World.ownsRow_nil _ _ _ _⟩,fun g hg=>by cases hg⟩,fun g hg=>by cases hg⟩,fun _ _ x=>x,hz,fun _ _ x=> .inl x⟩
  ·have hT:TyOk Tryz.prog 5 _ _ 1 1:=vN rfl
   obtain⟨i0,e1,e2,e3,e4⟩:=hT.inf
   refine(Any8.slices_Grow_grow Tryz.laysGrow i0 _ e1 e2 (by omega) none 0 0 n [] w (Nat.le_refl _) (by omega) (by rw[e4];omega) (by omega) (by simp) (fun _=>rfl) (fun a ha=>by cases ha)).mono ?_
   rintro e w' ⟨rfl,rfl⟩
   have hcap:=grownCap_le_maxLen w (0+n) 0 5 (by unfold maxLen;omega)
   have hge:0+n≤grownCap w (0+n) 0 5:=grownCap_ge w _ _ _
   have hbel:Below w.heap.size w (w.drew.alloc (.cells (([]:List Value).toArray++Builtin.zeroCells (Value.int .u8 0).cells (0+n-0)++Builtin.zeroCells (Value.int .u8 0).cells (grownCap w (0+n) 0 5-(0+n))) 5)):=(Below.drew (Below.refl _ _)).alloc (Nat.le_refl _) _
   have hobj:=heap_alloc_new w.drew (.cells (([]:List Value).toArray++Builtin.zeroCells (Value.int .u8 0).cells (0+n-0)++Builtin.zeroCells (Value.int .u8 0).cells (grownCap w (0+n) 0 5-(0+n))) 5)
   refine⟨_,_,rfl,rfl,hbel,rfl,fp0,fun _=> .slice (some ⟨w.heap.size,0,none⟩) 0 (grownCap w (0+n) 0 5),z0,fun b o hf=>⟨.inl hf,Nat.lt_of_lt_of_le (h0 b o hf) hbel.size⟩,.own (.sl [] (Nat.zero_le _) hcap rfl rfl (fun h=>by cases h) (fun u hu=>by simp at hu) (fun i d u _ hu=>by simp at hu) (fun i u hu=>by simp at hu)),fun n' sz' e' ht=> ?_,fun _ _ x=>x,hz,fun _ _ x=> .inl x⟩
   cases ht
   refine⟨?_,fun g hg o hzz=>by cases hg;exact absurd (h0 _ _ (hz _ _ hzz)) (Nat.lt_irrefl _)⟩
   refine⟨⟨[],by simp,.inr ⟨w.heap.size,_,_,rfl,Nat.le_refl _,hobj,Nat.zero_le _,hcap,?_,by simp⟩⟩,fun g hg o _ hf=> ?_⟩
   ·have hz:∀k,(Builtin.zeroCells (Value.int .u8 0).cells k).size=k:=fun k=>by simp[Builtin.zeroCells,Value.cells]
    rw[Array.size_append,Array.size_append,hz,hz]
    simp only[List.size_toArray,List.length_nil];omega
   ·cases hg
    have h9:w.heap.size<w.heap.size:=h0 _ _ hf
    omega
def Il (p:List UInt8):List D:=[Ag false p]
theorem Jj {α:Type} {f:α→List D} (hf:∀x,D.uns (f x)=f x) (t:Bool) (sz:Nat) (l:List α):(Er t sz f l).un=Er false sz f l:=by
 have:∀l:List α,D.uns (l.flatMap f)=l.flatMap f:=fun l=>by
  induction l with
  |nil=>rfl
  |cons x r ih=>
   rw[List.flatMap_cons,D.uns_eq,List.map_append,←D.uns_eq,←D.uns_eq,hf,ih]
 unfold Er
 rw[D.un,this]
def C4 (ps:List (List UInt8)):D:=Er false 1 Il ps
theorem Ap (ps:List (List UInt8)):(C4 ps).un=C4 ps:=Jj (fun x=>by simp only[Il,D.uns,Aj]) false 1 ps
theorem Qi {ps:List (List UInt8)} {i:Nat} {p:List UInt8} (h:ps[i]?=some p):(ps.take (i+1)).flatten=(ps.take i).flatten++p:=by
 obtain⟨hlt,he⟩:=List.getElem?_eq_some_iff.1 h
 rw[List.take_succ_eq_append_getElem hlt,he,List.flatten_append];simp
theorem Yz (ps:List (List UInt8)) (i:Nat):(ps.take i).flatten.length≤ps.flatten.length:=by
 conv=>rhs;rw[←List.take_append_drop i ps,List.flatten_append,List.length_append]
 omega
theorem Nz (ps:List (List UInt8)) (hl:ps.flatten.length≤1000000000) (hn:ps.length≤1000000000):Ab Tryz.prog 65 [.d (C4 ps)] (fun r=>r=A4 0 5 ps.flatten):=by
 refine acQ 36 Tryz.func65 rfl rfl fun _ _ _=> ?_
 (all_goals(conv=>whnf))
 refine Au (fun i:Nat=>i≤ps.length) (fun i=>ps.length-i) (fun i=>⟨[(0,.d (C4 ps)),(2,Ax),(3,iv (ps.take i).flatten.length),(9,.d (C4 ps)),(10,iv ps.length),(11,iv i)],[],[]⟩) 0 (by omega) leQ ?_
 ·intro i hi
  by_cases hik:i<ps.length
  ·obtain⟨p,hp⟩:∃p,ps[i]?=some p:=⟨_,List.getElem?_eq_getElem hik⟩
   have hs:=Qi hp
   have hle:=Yz ps (i+1)
   have hss:(ps.take (i+1)).flatten.length=(ps.take i).flatten.length+p.length:=by rw[hs,List.length_append]
   (repeat'((conv=>whnf);first|refine Ae ?_|refine NIdx.tab (fun _=>rfl) hp ?_|(with_reducible refine NInt.i64 ?_)|(refine Ai (fun hc hcP=> ?_) (fun hc hcP=> ?_)<;>try(exfalso;omega))));(all_goals(conv=>whnf))
   refine⟨i+1,by omega,by omega,?_⟩
   rw[hss]
   exact leQ
  ·obtain rfl:i=ps.length:=by omega
   rw[List.take_length]
   (repeat'((conv=>whnf);first|refine Aa (wB ps.flatten.length hl) rfl ?_|(refine Ai (fun hc hcP=> ?_) (fun hc hcP=> ?_)<;>try(exfalso;omega))));(all_goals(conv=>whnf))
   refine Au (fun i:Nat=>i≤ps.length) (fun i=>ps.length-i) (fun i=>⟨[(0,.d (C4 ps)),(2,Ax),(6,A4 24 5 (ps.take i).flatten),(25,.d (C4 ps)),(26,iv ps.length),(27,iv i)],[],[(24,((ps.take i).flatten.length,1,5))]⟩) 0 (by omega) leQ ?_
   ·intro i hi
    by_cases hik:i<ps.length
    ·obtain⟨p,hp⟩:∃p,ps[i]?=some p:=⟨_,List.getElem?_eq_getElem hik⟩
     have hs:=Qi hp
     have hle:=Yz ps (i+1)
     have hss:(ps.take (i+1)).flatten.length=(ps.take i).flatten.length+p.length:=by rw[hs,List.length_append]
     (repeat'((conv=>whnf);first|refine NIdx.tab (fun _=>rfl) hp ?_|(with_reducible refine NInt.i64 ?_)|(with_reducible refine NApp.bytes ?_)|(refine Ai (fun hc hcP=> ?_) (fun hc hcP=> ?_)<;>try(exfalso;omega))));(all_goals(conv=>whnf))
     refine⟨i+1,by omega,by omega,?_⟩
     rw[hs]
     exact leQ
    ·obtain rfl:i=ps.length:=by omega
     rw[List.take_length]
     (repeat'((conv=>whnf);refine Av asP ?_));(all_goals(conv=>whnf))
     all_goals exact zE
     all_goals rfl
theorem J4 (l:List UInt8) (hl:l.length≤1000000000):Ab Tryz.prog 165 [.d (Ag false l)] (fun r=>r= .d (Ag true l)):=by
 refine acQ 8 Tryz.func165 rfl rfl fun _ _ _=> ?_
 (repeat'((conv=>whnf);first|(refine Tl (gX (sz:=1) rfl rfl (ltN rfl) (Ce.ty rfl).u rfl rfl) ?_;rintro _ ⟨b,hnil,rfl⟩)|(with_reducible refine Ri ?_)|refine NBr.mk (fun hc=> ?_) (fun hc=> ?_)));(all_goals(conv=>whnf))
 ·have h0:l=[]:=List.length_eq_zero_iff.1 (hnil hc)
  subst h0
  exact zE
 ·exact zE
def Ah (c n:Nat) (k:Bool) (l:List UInt8):List UInt8:=Iz (UInt8.ofNat (idN c k n)) l
theorem wC {c n:Nat} (hc:c≤3) (hn:n≤30):Oz (c:Int) (n:Int)=false:=by
 unfold Oz
 simp;omega
theorem wD {c n:Nat} (k:Bool) (hc:c≤3) (hn:n≤30):idN c k n<256:=by
 unfold idN
 cases k<;>simp<;>omega
theorem qP (c n:Nat) (k:Bool) (hc:c≤3) (hn:n≤30):Ab Tryz.prog 93 [iv c,bv k,iv n] (fun r=>r= .tup [cv (UInt8.ofNat (idN c k n)).toNat,iv 0]):=by
 have:=vO k (wC hc hn)
 have h2:=wD k hc hn
 rw[show(UInt8.ofNat (idN c k n)).toNat=idN c k n by rw[UInt8.toNat_ofNat'];omega]
 exact this
theorem CX (n:Nat) (hn:n≤2147483647):Ab Tryz.prog 94 [iv n] (fun r=>r= .tup [A4 0 5 (Fk n),iv 0]):=by
 have hM:=CW n (by omega)
 have hL:=Ik 3 n (by omega)
 by_cases h:n<128
 ·rw[Fk,if_pos h]
  refine acQ 24 Tryz.func94 rfl rfl fun _ _ _=> ?_
  (repeat'((conv=>whnf);first|refine Ae ?_|refine Aa hM rfl ?_|(with_reducible refine NInt.u64 ?_)|(refine Ai (fun hc hcP=> ?_) (fun hc hcP=> ?_)<;>try(exfalso;omega))|exact zE))
  all_goals rfl
 ·rw[Fk,if_neg h]
  refine acQ 24 Tryz.func94 rfl rfl fun _ _ _=> ?_
  (repeat'((conv=>whnf);first|refine Ae ?_|refine Aa hM rfl ?_|(with_reducible refine Bd (128+(Ji n).length) ?_)|refine Oy ([UInt8.ofNat (128+(Ji n).length)]) ?_|(with_reducible refine NInt.i64 ?_)|(with_reducible refine NInt.u64 ?_)|(refine Ai (fun hc hcP=> ?_) (fun hc hcP=> ?_)<;>try(exfalso;omega))|exact zE))
theorem Ml {p:Prop} (h:p:=by first|rfl|(simp only[AV.gives,AV.ren,AV.give,D.un,D.uns,Aj,Ak,List.nil_append,List.append_nil,List.cons_append,Ap];first|done|rfl)):p:=h
theorem CY (c n:Nat) (k:Bool) (l:List UInt8) (hc:c≤3) (hn:n≤30) (hl:l.length≤900000000):Ab Tryz.prog 64 [iv c,bv k,iv n,.d (Ag false l)] (fun r=>r= .tup [A4 0 5 (Ah c n k l),iv 0]):=by
 have hI:=qP c n k hc hn
 have hM:=CX l.length (by omega)
 have hL:=J3 l.length (by omega)
 have hF:[[UInt8.ofNat (idN c k n)],Fk l.length,l].flatten=Ah c n k l:=by simp[Ah,Iz]
 have hC:=Nz [[UInt8.ofNat (idN c k n)],Fk l.length,l] (by simp;omega) (by simp)
 rw[hF] at hC
 refine acQ 38 Tryz.func64 rfl rfl fun _ _ _=> ?_
 (repeat'((conv=>whnf);first|refine Ae ?_|refine Aa hI rfl ?_|refine Aa hM rfl ?_|refine Aa hC Ml ?_|exact zE))
 all_goals rfl
theorem mA (e:El):D.uns (elC e)=elC e:=rfl
theorem O3 (c n:Nat) (k:Bool) (ps:List (List UInt8)) (hc:c≤3) (hn:n≤30) (hl:ps.flatten.length≤900000000) (hp:ps.length≤1000000000):Ab Tryz.prog 37 [iv c,bv k,iv n,.d (C4 ps)] (fun r=>r= .tup [A4 0 5 (Ah c n k ps.flatten),iv 0]):=by
 have hC:=Nz ps (by omega) hp
 have hE:=CY c n k ps.flatten hc hn hl
 refine acQ 18 Tryz.func37 rfl rfl fun _ _ _=> ?_
 (repeat'((conv=>whnf);first|refine Aa hC Ml ?_|refine Aa hE Ml ?_|exact zE))
 all_goals rfl
theorem Mm (ps:List (List UInt8)) (hl:ps.flatten.length≤900000000) (hp:ps.length≤1000000000):Ab Tryz.prog 63 [.d (C4 ps)] (fun r=>r= .tup [A4 0 5 (Ah 0 16 true ps.flatten),iv 0]):=by
 have hW:=O3 0 16 true ps (by omega) (by omega) hl hp
 refine acQ 8 Tryz.func63 rfl rfl fun _ _ _=> ?_
 (repeat'((conv=>whnf);refine Aa hW Ml ?_));(all_goals(conv=>whnf))
 all_goals exact zE
 all_goals rfl
structure LR where
 l:List El
 code:Nat
 off:Nat
def D7 (b:List UInt8) (en:Nat):Nat→Nat→LR
 |0,_=>⟨[],0,0⟩
 |f+1,at'=>if at'<en then
   if(nxS b at' en).code≠0 then⟨[],(nxS b at' en).code,(nxS b at' en).off⟩
   else if(D7 b en f (nxS b at' en).x.stop).code≠0 then D7 b en f (nxS b at' en).x.stop
   else⟨(nxS b at' en).x::(D7 b en f (nxS b at' en).x.stop).l,0,0⟩
  else⟨[],0,0⟩
def Ci (b:List UInt8) (frm en:Nat):LR:=D7 b en (en-frm) frm
theorem jA (b:List UInt8) (en:Nat) (hto:en≤b.length):∀(f g at':Nat),en-at'≤f→f≤g→D7 b en g at'=D7 b en f at':=by
 intro f
 induction f with
 |zero=>
  intro g at' h1 h2
  cases g with
  |zero=>rfl
  |succ g=>
   conv=>lhs;rw[D7,if_neg (by omega)]
   rfl
 |succ f ih=>
  intro g at' h1 h2
  obtain⟨g,rfl⟩:∃j,g=j+1:=⟨g-1,by omega⟩
  rw[D7,D7]
  by_cases h3:at'<en
  ·rw[if_pos h3,if_pos h3]
   by_cases h4:(nxS b at' en).code≠0
   ·rw[if_pos h4,if_pos h4]
   ·have h5:=(F7 b at' en (by omega) hto).1 (by omega)
    rw[if_neg h4,if_neg h4,ih g _ (by omega) (by omega)]
  ·rw[if_neg h3,if_neg h3]
theorem wE (b:List UInt8) (en:Nat):∀(f at':Nat),(D7 b en f at').code=0→D7 b en f at'=⟨(D7 b en f at').l,0,0⟩:=by
 intro f
 induction f with
 |zero=>intro at' _;rfl
 |succ f ih=>
  intro at' h
  rw[D7] at h⊢
  by_cases h3:at'<en
  ·rw[if_pos h3] at h⊢
   by_cases h4:(nxS b at' en).code≠0
   ·rw[if_pos h4] at h
    exact absurd h h4
   ·rw[if_neg h4] at h⊢
    by_cases h5:(D7 b en f (nxS b at' en).x.stop).code≠0
    ·rw[if_pos h5] at h
     exact absurd h h5
    ·rw[if_neg h5]
  ·rw[if_neg h3]
theorem Qj {b:List UInt8} {at' en:Nat} (h:¬at'<en):Ci b at' en=⟨[],0,0⟩:=by
 rw[Ci,show en-at'=0 by omega];rfl
theorem W2 {b:List UInt8} {at' en:Nat} (h:at'<en) (h1:(nxS b at' en).code≠0):Ci b at' en=⟨[],(nxS b at' en).code,(nxS b at' en).off⟩:=by
 obtain⟨f,hf⟩:∃f,en-at'=f+1:=⟨en-at'-1,by omega⟩
 rw[Ci,hf,D7,if_pos h,if_pos h1]
theorem N0 {b:List UInt8} {at' en:Nat} (hto:en≤b.length) (h:at'<en) (h1:(nxS b at' en).code=0):Ci b at' en=if(Ci b (nxS b at' en).x.stop en).code≠0 then Ci b (nxS b at' en).x.stop en else⟨(nxS b at' en).x::(Ci b (nxS b at' en).x.stop en).l,0,0⟩:=by
 obtain⟨f,hf⟩:∃f,en-at'=f+1:=⟨en-at'-1,by omega⟩
 have h5:=(F7 b at' en (by omega) hto).1 h1
 have e:D7 b en f (nxS b at' en).x.stop=Ci b (nxS b at' en).x.stop en:=jA b en hto _ _ _ (Nat.le_refl _) (by omega)
 rw[show Ci b at' en=D7 b en (f+1) at' by rw[Ci,hf],D7,if_pos h,if_neg (by omega),e]
def cU (l:List El):D:=Er true 6 elC l
theorem Du (l:List El):(cU l).un=Er false 6 elC l:=Jj mA true 6 l
theorem Dv (l:List El):(Er false 6 elC l).un=Er false 6 elC l:=Jj mA false 6 l
def lrA (r:LR):AV:=if r.code≠0 then .tup [Ax,erA r.code r.off] else .tup [.d (cU r.l),erA 0 0]
theorem cV (b:List UInt8) (frm en:Nat) (hb:b.length≤1000000000) (h1:frm≤en) (h2:en≤b.length):Ab Tryz.prog 81 [.d (Ag false b),iv frm,iv en] (fun r=>r=lrA (Ci b frm en)):=by
 refine acQ 49 Tryz.func81 rfl rfl fun _ _ _=> ?_
 (repeat'((conv=>whnf);first|refine Ae ?_|(refine Ai (fun hc hcP=> ?_) (fun hc hcP=> ?_)<;>try(exfalso;omega))));(all_goals(conv=>whnf))
 refine Ba [.s 8 6 94] (fun p:Nat×List El=>p.1≤en∧p.2.length≤p.1∧(Ci b frm en=if(Ci b p.1 en).code≠0 then Ci b p.1 en else⟨p.2++(Ci b p.1 en).l,0,0⟩)) (fun p=>en-p.1) (fun p=>⟨[(0,.d (Ag false b)),(2,iv en),(6,Ax),(7,.ptr 7 0),(8,Bx 8 6 94 elC p.2),(9,iv p.1)],[(7,[iv 0,iv 0])],[(8,(p.2.length,6,94))]⟩) (frm,[]) ⟨h1,by simp,?_⟩ ?_ ?_
 ·show Ci b frm en=if(Ci b frm en).code≠0 then Ci b frm en else⟨[]++(Ci b frm en).l,0,0⟩
  by_cases h:(Ci b frm en).code≠0
  ·rw[if_pos h]
  ·rw[if_neg h]
   exact wE b en _ _ (Decidable.not_not.1 h)
 ·exact leQ
 ·rintro⟨at',acc⟩ ⟨hat,hacc,he⟩
  simp only[] at hat hacc he
  by_cases h3:at'<en
  ·have hN:=cL b at' en hb hat h2
   have hF:=F7 b at' en hat h2
   by_cases h4:(nxS b at' en).code=0
   ·obtain⟨f1,f2,f3,f4,f5⟩:=hF.1 h4
    rw[N0 h2 h3 h4] at he
    (repeat'((conv=>whnf);first|refine Aa hN gvQ ?_|refine A3 elC (nxS b at' en).x ?_|(refine Ai (fun hc hcP=> ?_) (fun hc hcP=> ?_)<;>try(exfalso;omega))|(refine Cj (fun hc hcP=> ?_) (fun hc hcP=> ?_)<;>try(exfalso;omega))));(all_goals(conv=>whnf))
    refine⟨((nxS b at' en).x.stop,acc++[(nxS b at' en).x]),⟨by simp only[];omega,by simp;omega,?_⟩,by simp only[];omega,?_⟩
    ·rw[he]
     by_cases h6:(Ci b (nxS b at' en).x.stop en).code≠0
     ·rw[if_pos h6,if_pos h6,if_pos h6]
     ·rw[if_neg h6,if_neg h6,if_neg (by simp)]
      simp
    ·exact leQ
   ·rw[W2 h3 h4,if_pos h4] at he
    (repeat'((conv=>whnf);first|refine Aa hN gvQ ?_|refine zF ?_|(refine Ai (fun hc hcP=> ?_) (fun hc hcP=> ?_)<;>try(exfalso;omega))|(refine Cj (fun hc hcP=> ?_) (fun hc hcP=> ?_)<;>try(exfalso;omega))));(all_goals(conv=>whnf))
    all_goals(rw[he,lrA,if_pos h4];exact zE)
  ·rw[Qj h3,if_neg (by simp)] at he
   simp only[List.append_nil] at he
   (repeat'((conv=>whnf);(refine Ai (fun hc hcP=> ?_) (fun hc hcP=> ?_)<;>try(exfalso;omega))));(all_goals(conv=>whnf))
   all_goals(rw[he,lrA,if_neg (by simp)];exact zE)
theorem wF {b:List UInt8} {en:Nat} (hto:en≤b.length):∀(f at':Nat) (x:El),x∈(D7 b en f at').l→at'≤x.at'∧x.at'+2≤x.body∧x.body≤x.stop∧x.stop≤en∧x.c≤3∧x.n≤30:=by
 intro f
 induction f with
 |zero=>intro at' x h;simp[D7] at h
 |succ f ih=>
  intro at' x h
  rw[D7] at h
  by_cases h3:at'<en
  ·rw[if_pos h3] at h
   have hF:=F7 b at' en (by omega) hto
   by_cases h4:(nxS b at' en).code≠0
   ·rw[if_pos h4] at h;simp at h
   ·rw[if_neg h4] at h
    obtain⟨f1,f2,f3,f4,f5⟩:=hF.1 (Decidable.not_not.1 h4)
    by_cases h5:(D7 b en f (nxS b at' en).x.stop).code≠0
    ·rw[if_pos h5] at h
     have:=ih _ x h
     omega
    ·rw[if_neg h5] at h
     simp only[List.mem_cons] at h
     rcases h with rfl|h
     ·omega
     ·have:=ih _ x h
      omega
  ·rw[if_neg h3] at h;simp at h
theorem cW {b:List UInt8} {frm en:Nat} (hto:en≤b.length) {x:El} (h:x∈(Ci b frm en).l):frm≤x.at'∧x.at'+2≤x.body∧x.body≤x.stop∧x.stop≤en∧x.c≤3∧x.n≤30:=wF hto _ _ x h
theorem W4 {b:List UInt8} {en:Nat} (hto:en≤b.length):∀(f at':Nat),(D7 b en f at').l.length≤en-at':=by
 intro f
 induction f with
 |zero=>intro at';simp[D7]
 |succ f ih=>
  intro at'
  rw[D7]
  by_cases h3:at'<en
  ·rw[if_pos h3]
   have hF:=F7 b at' en (by omega) hto
   by_cases h4:(nxS b at' en).code≠0
   ·rw[if_pos h4];simp
   ·rw[if_neg h4]
    obtain⟨f1,f2,f3,f4,f5⟩:=hF.1 (Decidable.not_not.1 h4)
    have:=ih (nxS b at' en).x.stop
    by_cases h5:(D7 b en f (nxS b at' en).x.stop).code≠0
    ·rw[if_pos h5];omega
    ·rw[if_neg h5]
     simp only[List.length_cons]
     omega
  ·rw[if_neg h3];simp
theorem Dm (b:List UInt8):((A8 b).code=0→(A8 b).x.at'=0∧2≤(A8 b).x.body∧(A8 b).x.body≤(A8 b).x.stop∧(A8 b).x.stop=b.length∧(A8 b).off=0)∧(A8 b).code≤4∧(A8 b).off≤b.length∧(A8 b).x.c≤3∧(A8 b).x.n≤30∧(A8 b).x.stop≤b.length∧(A8 b).x.body≤(A8 b).x.stop:=by
 have hF:=F7 b 0 b.length (by omega) (by omega)
 unfold A8
 by_cases h:(nxS b 0 b.length).code=0∧(nxS b 0 b.length).x.stop<b.length
 ·rw[if_pos h]
  simp only[ElR.bad,El.zero]
  omega
 ·rw[if_neg h]
  omega
def Aw (b:List UInt8) (c n:Nat):LR:=
 if(A8 b).code≠0 then⟨[],(A8 b).code,(A8 b).off⟩ else if(A8 b).x.isB c n true=false then⟨[],3,0⟩ else Ci b (A8 b).x.body (A8 b).x.stop
theorem H7 (b:List UInt8) (c n:Nat) (hb:b.length≤1000000000):Ab Tryz.prog 56 [.d (Ag false b),iv c,iv n] (fun r=>r=lrA (Aw b c n)):=by
 have hO:=Kp b hb
 have hF:=Dm b
 by_cases h1:(A8 b).code=0
 ·obtain⟨f1,f2,f3,f4,f5⟩:=hF.1 h1
  have hI:=Qg (A8 b).x c n true
  by_cases h2:(A8 b).x.isB c n true=false
  ·have e:Aw b c n=⟨[],3,0⟩:=by rw[Aw,if_neg (by omega),if_pos h2]
   rw[h2] at hI
   rw[e]
   refine acQ 33 Tryz.func56 rfl rfl fun _ _ _=> ?_
   (repeat'((conv=>whnf);first|refine Ac ?_|refine Aa hO gvQ ?_|refine Aa hI rfl ?_|(refine Cj (fun hc hcP=> ?_) (fun hc hcP=> ?_)<;>try(exfalso;omega))|exact zE))
   all_goals rfl
  ·have e:Aw b c n=Ci b (A8 b).x.body (A8 b).x.stop:=by rw[Aw,if_neg (by omega),if_neg h2]
   have hL:=cV b (A8 b).x.body (A8 b).x.stop hb f3 (by omega)
   rw[Bool.not_eq_false] at h2
   rw[h2] at hI
   rw[e]
   by_cases h3:(Ci b (A8 b).x.body (A8 b).x.stop).code≠0
   ·rw[lrA,if_pos h3] at hL⊢
    refine acQ 33 Tryz.func56 rfl rfl fun _ _ _=> ?_
    (repeat'((conv=>whnf);first|refine Ae ?_|refine Aa hO gvQ ?_|refine Aa hI rfl ?_|refine Aa hL gvQ ?_|(refine Cj (fun hc hcP=> ?_) (fun hc hcP=> ?_)<;>try(exfalso;omega))|exact zE))
    all_goals rfl
   ·rw[lrA,if_neg h3] at hL⊢
    refine acQ 33 Tryz.func56 rfl rfl fun _ _ _=> ?_
    (repeat'((conv=>whnf);first|refine Ae ?_|refine Aa hO gvQ ?_|refine Aa hI rfl ?_|refine Aa hL gvQ ?_|(refine Cj (fun hc hcP=> ?_) (fun hc hcP=> ?_)<;>try(exfalso;omega))|exact zE))
    all_goals rfl
 ·have e:Aw b c n=⟨[],(A8 b).code,(A8 b).off⟩:=by rw[Aw,if_pos h1]
  rw[e,lrA,if_pos h1]
  refine acQ 33 Tryz.func56 rfl rfl fun _ _ _=> ?_
  (repeat'((conv=>whnf);first|refine Aa hO gvQ ?_|refine zF ?_|(refine Cj (fun hc hcP=> ?_) (fun hc hcP=> ?_)<;>try(exfalso;omega))|exact zE))
  all_goals rfl
def Gp:List (List UInt8)→Bool
 |[]=>true
 |[_]=>true
 |a::b::r=>decide (Ev a b<0)&&Gp (b::r)
theorem W5 {ps:List (List UInt8)} (h:ps.length≤1):Gp ps=true:=by
 match ps,h with
 |[],_=>rfl
 |[_],_=>rfl
theorem cX {ps:List (List UInt8)} {i:Nat} {a b:List UInt8} (h1:ps[i]?=some a) (h2:ps[i+1]?=some b):Gp (ps.drop i)=(decide (Ev a b<0)&&Gp (ps.drop (i+1))):=by
 obtain⟨l1,e1⟩:=List.getElem?_eq_some_iff.1 h1
 obtain⟨l2,e2⟩:=List.getElem?_eq_some_iff.1 h2
 rw[List.drop_eq_getElem_cons l1,List.drop_eq_getElem_cons l2,e1,e2,Gp]
theorem wG {p:Prop} (h:p:=by first|rfl|(simp only[AV.gives,AV.ren,AV.give,D.un,D.uns,Aj,Ak,List.nil_append,List.append_nil,List.cons_append,Ap];first|done|rfl)):p:=h
theorem Rk (ps:List (List UInt8)) (hn:ps.length≤1000000000) (hl:∀p∈ps,p.length≤1000000000):Ab Tryz.prog 116 [.d (C4 ps)] (fun r=>r=bv (Gp ps)):=by
 refine acQ 25 Tryz.func116 rfl rfl fun _ _ _=> ?_
 (all_goals(conv=>whnf))
 refine Au (fun i:Nat=>i≤ps.length∧Gp ps=Gp (ps.drop (i-1))) (fun i=>ps.length-i) (fun i=>⟨[(0,.d (C4 ps)),(2,bv false),(4,.d (C4 ps)),(5,iv ps.length),(6,iv i)],[],[]⟩) 0 ⟨by omega,rfl⟩ leQ ?_
 ·rintro i ⟨hi,he⟩
  by_cases hik:i<ps.length
  ·obtain⟨b,hb⟩:∃p,ps[i]?=some p:=⟨_,List.getElem?_eq_getElem hik⟩
   by_cases h0:i=0
   ·subst h0
    have hg:decide (((0:Nat):Int)>0)=false:=rfl
    (repeat'((conv=>whnf);first|refine Ae ?_|(with_reducible refine NInt.i64 ?_)|refine zF ?_|(refine Ai (fun hc hcP=> ?_) (fun hc hcP=> ?_)<;>try(exfalso;omega))));(all_goals(conv=>whnf))
    refine⟨0+1,⟨by omega,he⟩,by omega,?_⟩
    exact leQ
   ·obtain⟨j,rfl⟩:∃j,i=j+1:=⟨i-1,by omega⟩
    obtain⟨a,ha⟩:∃p,ps[j]?=some p:=⟨_,List.getElem?_eq_getElem (by omega)⟩
    have hg:decide (((j+1:Nat):Int)>0)=true:=decide_eq_true (by omega)
    have hC:=CU a b (hl a (List.mem_of_getElem? ha)) (hl b (List.mem_of_getElem? hb))
    rw[Nat.add_sub_cancel,cX ha hb] at he
    by_cases hcm:Ev a b<0
    ·rw[decide_eq_true hcm,Bool.true_and] at he
     have hg2:decide (Ev a b≥0)=false:=decide_eq_false (by omega)
     (repeat'((conv=>whnf);first|refine At asP ?_|refine Av asP ?_|refine Aa hC wG ?_|refine NIdx.tab (fun _=>rfl) ha ?_|refine NIdx.tab (fun _=>rfl) hb ?_|(with_reducible refine NInt.i64 ?_)|refine zF ?_|(refine Ai (fun hc hcP=> ?_) (fun hc hcP=> ?_)<;>try(exfalso;omega))));(all_goals(conv=>whnf))
     refine⟨j+1+1,⟨by omega,he⟩,by omega,?_⟩
     exact leQ
    ·rw[decide_eq_false hcm,Bool.false_and] at he
     have hg2:decide (Ev a b≥0)=true:=decide_eq_true (by omega)
     (repeat'((conv=>whnf);first|refine At asP ?_|refine Aa hC wG ?_|refine NIdx.tab (fun _=>rfl) ha ?_|refine NIdx.tab (fun _=>rfl) hb ?_|(with_reducible refine NInt.i64 ?_)|refine zF ?_|(refine Ai (fun hc hcP=> ?_) (fun hc hcP=> ?_)<;>try(exfalso;omega))));(all_goals(conv=>whnf))
     all_goals(rw[he];exact zE)
  ·obtain rfl:i=ps.length:=by omega
   rw[W5 (ps:=ps.drop (ps.length-1)) (by simp;omega)] at he
   (repeat'((conv=>whnf);(refine Ai (fun hc hcP=> ?_) (fun hc hcP=> ?_)<;>try(exfalso;omega))));(all_goals(conv=>whnf))
   all_goals(rw[he];exact zE)
theorem Mn {p:Prop} (h:p:=by first|rfl|(simp only[AV.gives,AV.ren,AV.give,D.un,D.uns,Aj,Ak,List.nil_append,List.append_nil,List.cons_append,Ap,Du,Dv];first|done|rfl)):p:=h
theorem Y0 (ps:List (List UInt8)) (hn:ps.length≤1000000000) (hl:∀p∈ps,p.length≤1000000000):Ab Tryz.prog 106 [.d (C4 ps)] (fun r=>r=bv (Gp ps)):=by
 have hcv:∀a b:List UInt8,Ev a b= -1∨Ev a b=0∨Ev a b=1:=by
  intro a
  induction a with
  |nil=>intro b;cases b<;>simp[Ev]
  |cons x r ih=>
   intro b
   cases b with
   |nil=>simp[Ev]
   |cons y s=>
    rw[Ev]
    by_cases h1:x.toNat<y.toNat
    ·rw[if_pos h1];simp
    ·rw[if_neg h1]
     by_cases h2:y.toNat<x.toNat
     ·rw[if_pos h2];simp
     ·rw[if_neg h2];exact ih s
 refine acQ 21 Tryz.func106 rfl rfl fun _ _ _=> ?_
 (all_goals(conv=>whnf))
 refine Au (fun i:Nat=>i≤ps.length+1∧Gp ps=Gp (ps.drop i)) (fun i=>ps.length+1-i) (fun i=>⟨[(0,.d (C4 ps)),(2,bv false),(3,iv (i+1:Nat))],[],[]⟩) 0 ⟨by omega,rfl⟩ leQ ?_
 ·rintro i ⟨hi,he⟩
  by_cases hik:i+1<ps.length
  ·obtain⟨a,ha⟩:∃p,ps[i]?=some p:=⟨_,List.getElem?_eq_getElem (by omega)⟩
   obtain⟨b,hb⟩:∃p,ps[i+1]?=some p:=⟨_,List.getElem?_eq_getElem hik⟩
   have hC:=cN a b (hl a (List.mem_of_getElem? ha)) (hl b (List.mem_of_getElem? hb))
   rw[cX ha hb] at he
   have hv:=hcv a b
   by_cases hcm:Ev a b<0
   ·rw[decide_eq_true hcm,Bool.true_and] at he
    (repeat'((conv=>whnf);first|refine Aa hC Mn ?_|refine NIdx.tab (fun _=>rfl) ha ?_|refine NIdx.tab (fun _=>rfl) hb ?_|(with_reducible refine NInt.i64 ?_)|refine zF ?_|(refine Ai (fun hc hcP=> ?_) (fun hc hcP=> ?_)<;>try(exfalso;omega))|(refine Cj (fun hc hcP=> ?_) (fun hc hcP=> ?_)<;>try(exfalso;omega))));(all_goals(conv=>whnf))
    refine⟨i+1,⟨by omega,he⟩,by omega,?_⟩
    exact leQ
   ·rw[decide_eq_false hcm,Bool.false_and] at he
    (repeat'((conv=>whnf);first|refine Aa hC Mn ?_|refine NIdx.tab (fun _=>rfl) ha ?_|refine NIdx.tab (fun _=>rfl) hb ?_|(with_reducible refine NInt.i64 ?_)|refine zF ?_|(refine Ai (fun hc hcP=> ?_) (fun hc hcP=> ?_)<;>try(exfalso;omega))|(refine Cj (fun hc hcP=> ?_) (fun hc hcP=> ?_)<;>try(exfalso;omega))));(all_goals(conv=>whnf))
    all_goals(rw[he];exact zE)
  ·rw[W5 (ps:=ps.drop i) (by simp;omega)] at he
   (repeat'((conv=>whnf);(refine Ai (fun hc hcP=> ?_) (fun hc hcP=> ?_)<;>try(exfalso;omega))));(all_goals(conv=>whnf))
   all_goals(rw[he];exact zE)
theorem Et (x:UInt8) (ps:List (List UInt8)) (hn:ps.length≤1000000000) (hl:ps.flatten.length≤900000000):Ab Tryz.prog 42 [cv x.toNat,.d (C4 ps)] (fun r=>r=A4 0 5 (Iz x ps.flatten)):=by
 have hP:=C3 x ps.flatten hl
 refine acQ 22 Tryz.func42 rfl rfl fun _ _ _=> ?_
 (all_goals(conv=>whnf))
 refine Ba [.s 5 1 5] (fun i:Nat=>i≤ps.length) (fun i=>ps.length-i) (fun i=>⟨[(0,cv x.toNat),(1,.d (C4 ps)),(4,Ax),(5,A4 5 5 (ps.take i).flatten),(6,iv i)],[],[(5,((ps.take i).flatten.length,1,5))]⟩) 0 (by omega) leQ ?_
 ·intro i hi
  by_cases hik:i<ps.length
  ·obtain⟨p,hp⟩:∃p,ps[i]?=some p:=⟨_,List.getElem?_eq_getElem hik⟩
   have hs:=Qi hp
   have hle:=Yz ps (i+1)
   have hss:(ps.take (i+1)).flatten.length=(ps.take i).flatten.length+p.length:=by rw[hs,List.length_append]
   (repeat'((conv=>whnf);first|refine NIdx.tab (fun _=>rfl) hp ?_|(with_reducible refine NInt.i64 ?_)|(with_reducible refine NApp.bytes ?_)|(refine Ai (fun hc hcP=> ?_) (fun hc hcP=> ?_)<;>try(exfalso;omega))));(all_goals(conv=>whnf))
   refine⟨i+1,by omega,by omega,?_⟩
   rw[hs]
   exact leQ
  ·obtain rfl:i=ps.length:=by omega
   rw[List.take_length]
   (repeat'((conv=>whnf);first|refine Aa hP Mn ?_|(refine Ai (fun hc hcP=> ?_) (fun hc hcP=> ?_)<;>try(exfalso;omega))|exact zE))
   all_goals rfl
def Bn (b:List UInt8) (n:Nat):Option (List UInt8):=
 if(A8 b).code≠0∨(A8 b).x.isB 2 n true=false then none else some ((b.drop (A8 b).x.body).take ((A8 b).x.stop-(A8 b).x.body))
def wH:Option (List UInt8)→AV
 |none=> .tup [Ax,bv false]
 |some l=> .tup [.d (Ag false l),bv true]
theorem qQ (b:List UInt8) (n:Nat) (hb:b.length≤1000000000):Ab Tryz.prog 184 [.d (Ag false b),iv n] (fun r=>r=wH (Bn b n)):=by
 have hO:=Kp b hb
 have hF:=Dm b
 have hI:=Qg (A8 b).x 2 n true
 by_cases h1:(A8 b).code=0
 ·obtain⟨f1,f2,f3,f4,f5⟩:=hF.1 h1
  by_cases h2:(A8 b).x.isB 2 n true=false
  ·rw[Bn,if_pos (Or.inr h2)]
   rw[h2] at hI
   refine acQ 28 Tryz.func184 rfl rfl fun _ _ _=> ?_
   (repeat'((conv=>whnf);first|refine Ac ?_|refine Ae ?_|refine Aa hO Mn ?_|refine Aa hI rfl ?_|(refine Cj (fun hc hcP=> ?_) (fun hc hcP=> ?_)<;>try(exfalso;omega))|exact zE))
   all_goals rfl
  ·rw[Bn,if_neg (by rintro(h|h);exact h h1;exact h2 h)]
   rw[Bool.not_eq_false] at h2
   rw[h2] at hI
   refine acQ 28 Tryz.func184 rfl rfl fun _ _ _=> ?_
   (repeat'((conv=>whnf);first|refine Ae ?_|refine Aa hO Mn ?_|refine Aa hI rfl ?_|refine NSl.slice ((A8 b).x.body) ((A8 b).x.stop) ?_|(refine Cj (fun hc hcP=> ?_) (fun hc hcP=> ?_)<;>try(exfalso;omega))|exact zE))
   all_goals rfl
 ·rw[Bn,if_pos (Or.inl h1)]
  refine acQ 28 Tryz.func184 rfl rfl fun _ _ _=> ?_
  (repeat'((conv=>whnf);first|refine Ac ?_|refine Aa hO Mn ?_|(refine Cj (fun hc hcP=> ?_) (fun hc hcP=> ?_)<;>try(exfalso;omega))|exact zE))
  all_goals rfl
def elO (c:List UInt8) (x:El):List UInt8:=(c.drop x.at').take (x.stop-x.at')
def Dc (c:List UInt8):List (List UInt8):=if(Ci c 0 c.length).code≠0 then [] else(Ci c 0 c.length).l.map (elO c)
def wI (ps:List (List UInt8)):D:=Er true 1 Il ps
theorem A0 (ps:List (List UInt8)):(wI ps).un=C4 ps:=Jj (fun x=>by simp only[Il,D.uns,Aj]) true 1 ps
theorem cY {p:Prop} (h:p:=by first|rfl|(simp only[AV.gives,AV.ren,AV.give,D.un,D.uns,Aj,Ak,List.nil_append,List.append_nil,List.cons_append,Ap,Du,Dv];first|done|rfl)):p:=h
theorem W6 (c:List UInt8) (hb:c.length≤1000000000):Ab Tryz.prog 183 [.d (Ag false c)] (fun r=>r= .d (wI (Dc c))):=by
 have hL:=cV c 0 c.length hb (by omega) (by omega)
 by_cases h1:(Ci c 0 c.length).code≠0
 ·rw[Dc,if_pos h1]
  rw[lrA,if_pos h1] at hL
  refine acQ 35 Tryz.func183 rfl rfl fun _ _ _=> ?_
  (repeat'((conv=>whnf);first|refine Aa hL cY ?_|(refine Cj (fun hc hcP=> ?_) (fun hc hcP=> ?_)<;>try(exfalso;omega))));(all_goals(conv=>whnf))
  exact zE
 ·rw[Dc,if_neg h1]
  rw[lrA,if_neg h1] at hL
  have hin:=fun x=>cW (b:=c) (frm:=0) (en:=c.length) (x:=x) (Nat.le_refl _)
  have hll:(Ci c 0 c.length).l.length≤c.length:=by have:=W4 (b:=c) (en:=c.length) (Nat.le_refl _) (c.length-0) 0;exact this
  generalize (Ci c 0 c.length).l=l at hL hin hll⊢
  refine acQ 35 Tryz.func183 rfl rfl fun _ _ _=> ?_
  (repeat'((conv=>whnf);first|refine Ae ?_|refine Aa hL cY ?_));(all_goals(conv=>whnf))
  refine Ba [.s 5 1 29] (fun i:Nat=>i≤l.length) (fun i=>l.length-i) (fun i=>⟨[(0,.d (Ag false c)),(2,Ax),(5,Bx 5 1 29 Il ((l.take i).map (elO c))),(18,.d (cU l)),(19,iv l.length),(20,iv i)],[],[(5,(((l.take i).map (elO c)).length,1,29))]⟩) 0 (by omega) leQ ?_
  ·intro i hi
   by_cases hik:i<l.length
   ·obtain⟨x,hx⟩:∃p,l[i]?=some p:=⟨_,List.getElem?_eq_getElem hik⟩
    obtain⟨k1,k2,k3,k4,k5,k6⟩:=hin x (List.mem_of_getElem? hx)
    have hs:(l.take (i+1)).map (elO c)=(l.take i).map (elO c)++[elO c x]:=by
     have hg:=List.getElem?_eq_getElem hik
     rw[hx] at hg
     rw[List.take_succ_eq_append_getElem hik,List.map_append]
     cases hg;rfl
    have hml:((l.take i).map (elO c)).length≤1000000000-1:=by rw[List.length_map,List.length_take];omega
    (repeat'((conv=>whnf);first|refine NIdx.tab (fun _=>rfl) hx ?_|refine NSl.slice (x.at') (x.stop) ?_|refine A3 Il (elO c x) ?_|(with_reducible refine NInt.i64 ?_)|(refine Ai (fun hc hcP=> ?_) (fun hc hcP=> ?_)<;>try(exfalso;omega))));(all_goals(conv=>whnf))
    refine⟨i+1,by omega,by omega,?_⟩
    rw[hs]
    exact leQ
   ·obtain rfl:i=l.length:=by omega
    rw[List.take_length]
    (repeat'((conv=>whnf);(refine Ai (fun hc hcP=> ?_) (fun hc hcP=> ?_)<;>try(exfalso;omega))));(all_goals(conv=>whnf))
    all_goals exact zE
    all_goals rfl
end Go.Proofs.YtjakkpcpommojaaGreatDoor
