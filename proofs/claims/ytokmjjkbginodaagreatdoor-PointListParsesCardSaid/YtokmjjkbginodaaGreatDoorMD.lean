/- MD: the texts Tlv Tlv2 Tlv3 El Cmp Ref1 Ref2 Ref3 Ref4 Rev Min Grow Concat List Ord Ref5 Split, one behind the other. No condition but what each lemma says. -/
import Derived.Test.YtokmjjkbginodaaGreatDoorMC
import Derived.Test.YtokmjjkbginodaaGreatDoorShelf
import Derived.Shelf.SlicesE.Reverse
import Derived.Shelf.Spec.SlicesGrow
set_option maxRecDepth 100000
set_option maxHeartbeats 16000000
namespace Go.Proofs.YtokmjjkbginodaaGreatDoor
open Go.RowKit
def Qc (c n:Int):Bool:=decide (c<0)||decide (c>3)||decide (n<0)||decide (n≥31)
def idN (c:Int) (k:Bool) (n:Int):Nat:=(c*64+n).toNat+(if k then 32 else 0)
def idX (c n:Int):Int:=IntKind.u8.wrap (IntKind.i64.wrap ((BitVec.ofInt 64 (IntKind.i64.wrap (c*2^6))|||BitVec.ofInt 64 n).toNat:Int))
theorem FR:∀c:Fin 4,∀n:Fin 31,idX c.1 n.1=(idN c.1 false n.1:Nat)∧IntKind.u8.wrap ((BitVec.ofInt 8 (idX c.1 n.1)|||BitVec.ofInt 8 32).toNat:Int)=(idN c.1 true n.1:Nat):=by decide+kernel
theorem JP {c n:Int} (h:Qc c n=false):idX c n=(idN c false n:Nat)∧IntKind.u8.wrap ((BitVec.ofInt 8 (idX c n)|||BitVec.ofInt 8 32).toNat:Int)=(idN c true n:Nat):=by
 simp only[Qc,Bool.or_eq_false_iff,decide_eq_false_iff_not] at h
 obtain⟨c',rfl⟩:∃c':Nat,c=c':=⟨c.toNat,by omega⟩
 obtain⟨n',rfl⟩:∃n':Nat,n=n':=⟨n.toNat,by omega⟩
 exact FR ⟨c',by omega⟩ ⟨n',by omega⟩
theorem sX (c n:Int) (k:Bool):Ab Tryz.prog 84 [iv c,bv k,iv n] (fun r=>r=if Qc c n then .tup [cv 0,iv 9] else .tup [cv (idN c k n),iv 0]):=by
 cases hb:Qc c n with
 |true=>
  have hb':=hb
  simp only[Qc,Bool.or_eq_true,decide_eq_true_eq] at hb'
  refine acQ 32 Tryz.func84 rfl rfl fun _ _ _=> ?_
  (repeat'((conv=>whnf);first|refine Ac ?_|refine Ae ?_|(refine Ai (fun hc hcP=> ?_) (fun hc hcP=> ?_)<;>try(exfalso;omega))|exact zE))
 |false=>
  have hb':=hb
  simp only[Qc,Bool.or_eq_false_iff,decide_eq_false_iff_not] at hb'
  refine acQ 32 Tryz.func84 rfl rfl fun _ _ _=> ?_
  cases k
  all_goals
   (repeat'((conv=>whnf);first|refine Ac ?_|refine Ae ?_|refine Au (by first|decide|omega|(simp only[Ag,List.length_nil];omega)) ?_|refine NInt.as _ rfl ?_|(refine Ai (fun hc hcP=> ?_) (fun hc hcP=> ?_)<;>try(exfalso;omega))));(all_goals(conv=>whnf))
   (refine A7 ?_;(repeat'(first|exact trivial|exact Be _|refine And.intro ?_ ?_|exact rfl));(all_goals(conv=>whnf)))
  ·exact(JP hb).1
  ·exact(JP hb).2
theorem yF {c n:Int} (k:Bool) (h:Qc c n=false):Ab Tryz.prog 84 [iv c,bv k,iv n] (fun r=>r= .tup [cv (idN c k n),iv 0]):=(sX c n k).mono fun r hr=>by rw[hr,h];rfl
def yG (x:Nat):AV:=if x%32=31 then .tup [iv 0,bv false,iv 0,iv 3] else .tup [iv (x/64:Nat),bv (x/32%2==1),iv (x%32:Nat),iv 0]
theorem yH:∀x:Fin 256,(IntKind.u8.wrap ((BitVec.ofInt 8 (x.1:Int)&&&BitVec.ofInt 8 31).toNat:Int))=(x.1%32:Nat)∧(IntKind.u8.wrap ((BitVec.ofInt 8 (x.1:Int)&&&BitVec.ofInt 8 32).toNat:Int))=(x.1/32%2*32:Nat)∧IntKind.i64.wrap ((x.1:Int).fdiv (2^6))=(x.1/64:Nat)∧IntKind.i64.wrap (x.1%32:Nat)=(x.1%32:Nat):=by decide+kernel
theorem U6 (x:Nat) (hx:x<256):Ab Tryz.prog 146 [cv x] (fun r=>r=yG x):=by
 obtain⟨b1,b2,b3,b4⟩:=yH ⟨x,hx⟩
 simp only at b1 b2 b3 b4
 by_cases hx31:x%32=31
 ·rw[yG,if_pos hx31]
  refine acQ 18 Tryz.func146 rfl rfl fun _ _ _=> ?_
  (repeat'((conv=>whnf);first|refine NInt.as (((x%32:Nat):Int)) (b1) ?_|(refine Ai (fun hc hcP=> ?_) (fun hc hcP=> ?_)<;>try(exfalso;omega))|exact zE))
 ·rw[yG,if_neg hx31]
  refine acQ 18 Tryz.func146 rfl rfl fun _ _ _=> ?_
  (repeat'((conv=>whnf);first|refine NInt.as (((x%32:Nat):Int)) (b1) ?_|refine NInt.as (((x/32%2*32:Nat):Int)) (b2) ?_|(with_reducible refine NInt.i64 ?_)|(with_reducible refine NInt.shr ?_)|refine Au (by first|decide|omega|(simp only[Ag,List.length_nil];omega)) ?_|refine NInt.as _ rfl ?_|(refine Ai (fun hc hcP=> ?_) (fun hc hcP=> ?_)<;>try(exfalso;omega))));(all_goals(conv=>whnf))
  all_goals(refine A7 ?_;(repeat'(first|exact trivial|exact Be _|refine And.intro ?_ ?_|exact rfl));(all_goals(conv=>whnf)))
  have b5:IntKind.i64.wrap ((x/64:Nat):Int)=((x/64:Nat):Int):=IntWalk.i64_in _ (by omega)
  all_goals first|exact b3|exact b4|exact b5|skip
  rw[Bool.eq_iff_iff];simp only[bne_iff_ne,ne_eq,beq_iff_eq];omega
def PC (c o:Int):AV:= .tup [iv 0,iv 0,.agg [iv c,iv o]]
theorem O9 (c o:Int):Ab Tryz.prog 186 [iv c,iv o] (fun r=>r=PC c o):=by
 refine acQ 10 Tryz.func186 rfl rfl fun _ _ _=> ?_
 (all_goals(conv=>whnf))
 all_goals exact zE
 all_goals rfl
def beV (l:List UInt8):Nat:=l.foldl (fun a b=>a*256+b.toNat) 0
theorem Qd (l:List UInt8) (b:UInt8):beV (l++[b])=beV l*256+b.toNat:=by simp[beV]
theorem kW (l:List UInt8):beV l<256^l.length:=by
 have gen:∀(l:List UInt8) (a:Nat),l.foldl (fun a b=>a*256+b.toNat) a<(a+1)*256^l.length:=by
  intro l
  induction l with
  |nil=>intro a;simp
  |cons b r ih=>
   intro a
   rw[List.foldl_cons,Ag,Nat.pow_succ]
   have h:=ih (a*256+b.toNat)
   have hb:=b.toNat_lt
   refine Nat.lt_of_lt_of_le h ?_
   rw[Nat.mul_comm (256^r.length) 256,←Nat.mul_assoc]
   exact Nat.mul_le_mul_right _ (by omega)
 have:=gen l 0
 simpa[beV] using this
def rlS:List UInt8→Nat×Nat×Nat×Nat
 |[]=>(0,0,1,0)
 |x::r=>if x.toNat<128 then(x.toNat,1,0,0) else if x.toNat=128∨x.toNat>132 then(0,0,4,0) else if r.length<x.toNat-128 then(0,0,1,r.length+1) else
   if(r.headD 0).toNat=0∨beV (r.take (x.toNat-128))<128∨beV (r.take (x.toNat-128))>2147483647 then(0,0,4,0) else(beV (r.take (x.toNat-128)),x.toNat-127,0,0)
def rlA (p:Nat×Nat×Nat×Nat):AV:= .tup [iv p.1,iv p.2.1,.agg [iv p.2.2.1,iv p.2.2.2]]
theorem Nu {x:UInt8} {r:List UInt8} (h:x.toNat<128):rlS (x::r)=(x.toNat,1,0,0):=by rw[rlS,if_pos h]
theorem U7 {x:UInt8} {r:List UInt8} (h:128≤x.toNat) (h2:x.toNat=128∨x.toNat>132):rlS (x::r)=(0,0,4,0):=by rw[rlS,if_neg (by omega),if_pos h2]
theorem Rr {x:UInt8} {r:List UInt8} (h:128<x.toNat) (h2:x.toNat≤132) (h3:r.length<x.toNat-128):rlS (x::r)=(0,0,1,r.length+1):=by rw[rlS,if_neg (by omega),if_neg (by omega),if_pos h3]
theorem Tl {x y:UInt8} {s:List UInt8} {k:Nat} (hk:x.toNat=k+128) (h:1≤k) (h2:k≤4) (h3:k≤s.length+1) (h4:y.toNat=0∨beV ((y::s).take k)<128∨beV ((y::s).take k)>2147483647):rlS (x::y::s)=(0,0,4,0):=by
 rw[rlS,hk,Nat.add_sub_cancel]
 rw[if_neg (by omega),if_neg (by omega),if_neg (by rw[Ag];omega)];exact if_pos h4
theorem aG {x y:UInt8} {s:List UInt8} {k:Nat} (hk:x.toNat=k+128) (h:1≤k) (h2:k≤4) (h3:k≤s.length+1) (h4:¬(y.toNat=0∨beV ((y::s).take k)<128∨beV ((y::s).take k)>2147483647)):rlS (x::y::s)=(beV ((y::s).take k),k+1,0,0):=by
 rw[rlS,hk,Nat.add_sub_cancel]
 rw[if_neg (by omega),if_neg (by omega),if_neg (by rw[Ag];omega)];refine(if_neg h4).trans ?_
 rw[show k+128-127=k+1 by omega]
theorem yI (n:Nat) (b:UInt8) (hn:n<4294967296):IntKind.i64.wrap ((BitVec.ofInt IntKind.i64.bits (IntKind.i64.wrap ((n:Int)*2^(min (Int.toNat 8) IntKind.i64.bits)))|||BitVec.ofInt IntKind.i64.bits (b.toNat:Int)).toNat:Int)=((n*256+b.toNat:Nat):Int):=by
 have hb:=b.toNat_lt
 have e1:IntKind.i64.wrap ((n:Int)*2^(min (Int.toNat 8) IntKind.i64.bits))=((n*256:Nat):Int):=by
  have:(2:Int)^(min (Int.toNat 8) IntKind.i64.bits)=256:=by decide
  rw[this,IntWalk.i64_in _ (by omega)];omega
 rw[e1,BitVec.toNat_or,BitVec.ofInt_natCast,BitVec.ofInt_natCast,BitVec.toNat_ofNat,BitVec.toNat_ofNat]
 have hb64:2^IntKind.i64.bits=18446744073709551616:=by decide
 rw[hb64,Nat.mod_eq_of_lt (by omega),Nat.mod_eq_of_lt (by omega)]
 have:n*256|||b.toNat=n*256+b.toNat:=by
  have h:=Nat.shiftLeft_add_eq_or_of_lt (i:=8) (b:=b.toNat) (by omega) n
  rw[Nat.shiftLeft_eq] at h
  exact h.symm
 rw[this,IntWalk.i64_in _ (by omega)]
theorem dZ (l:List UInt8) (hl:l.length≤1000000000):Ab Tryz.prog 147 [.d (Af false l)] (fun r=>r=rlA (rlS l)):=by
 cases l with
 |nil=>
  refine acQ 87 Tryz.func147 rfl rfl fun _ _ _=> ?_
  (repeat'((conv=>whnf);first|refine Ac ?_|refine Aa (O9 _ _) rfl ?_|exact zE))
 |cons x r=>
  have hx:=x.toNat_lt
  have h0:(x::r)[0]?=some x:=rfl
  simp only[Ag] at hl
  refine acQ 87 Tryz.func147 rfl rfl fun _ _ _=> ?_
  (repeat'((conv=>whnf);first|refine Ac ?_|refine Ae ?_|refine Aa (O9 _ _) rfl ?_|refine NIdx.bytes h0 ?_|(with_reducible refine NInt.i64 ?_)|(refine Ai (fun hc hcP=> ?_) (fun hc hcP=> ?_)<;>try(exfalso;omega))));(all_goals(conv=>whnf))
  all_goals try(simp only[Ag] at*;first|(rw[Nu (by omega)];exact zE)|(rw[U7 (by omega) (by omega)];exact zE)|(rw[Rr (by omega) (by omega) (by omega)];exact zE))
  simp only[Ag] at*
  obtain⟨k,hk⟩:∃k:Nat,x.toNat=k+128:=⟨x.toNat-128,by omega⟩
  refine Ax (fun i:Nat=>1≤i∧i≤k+1) (fun i=>k+1-i) (fun i=>⟨[(0,.d (Af false (x::r))),(4,.ptr 4 0),(5,.d (.fn 186 [])),(6,iv k),(7,iv (beV (r.take (i-1)))),(8,iv i)],[(4,[iv 0,iv 0])],[]⟩) 1 (by omega) leQ ?_
  intro i hi
  have hbv:=kW (r.take (i-1))
  by_cases hik:i≤k
  ·obtain⟨b,hb⟩:∃b,(x::r)[i]?=some b:=⟨_,Am (by simp only[Ag];omega)⟩
   have hn32:beV (r.take (i-1))<4294967296:=by
    refine Nat.lt_of_lt_of_le hbv ?_
    refine Nat.le_trans (Nat.pow_le_pow_right (by omega) (show(r.take (i-1)).length≤4 by rw[Al];omega)) (by decide)
   have hor:=yI (beV (r.take (i-1))) b hn32
   have hsn:beV (r.take i)=beV (r.take (i-1))*256+b.toNat:=by
    obtain⟨j,rfl⟩:∃j,i=j+1:=⟨i-1,by omega⟩
    have hj:j<r.length:=by omega
    have:r[j]?=some b:=by simpa using hb
    rw[Am hj] at this
    rw[List.take_succ_eq_append_getElem hj,Qd,Nat.add_sub_cancel]
    cases this;rfl
   rw[←hsn] at hor
   have hbl:=b.toNat_lt
   (repeat'((conv=>whnf);first|refine NIdx.bytes hb ?_|refine NInt.as (((beV (r.take i):Nat):Int)) (hor) ?_|(with_reducible refine NInt.i64 ?_)|refine Au (by first|decide|omega|(simp only[Ag,List.length_nil];omega)) ?_|refine NInt.as _ rfl ?_|(refine Ai (fun hc hcP=> ?_) (fun hc hcP=> ?_)<;>try(exfalso;omega))));(all_goals(conv=>whnf))
   refine⟨i+1,by omega,by omega,?_⟩
   exact leQ
  ·obtain rfl:i=k+1:=by omega
   cases r with
   |nil=>simp only[List.length_nil] at*;omega
   |cons y s=>
    have h1:(x::y::s)[1]?=some y:=rfl
    have hy:=y.toNat_lt
    rw[Nat.add_sub_cancel] at*
    simp only[Ag] at*
    (repeat'((conv=>whnf);first|refine Ac ?_|refine Ae ?_|refine NIdx.bytes h1 ?_|refine Aa (O9 _ _) rfl ?_|(with_reducible refine NInt.i64 ?_)|(refine Ai (fun hc hcP=> ?_) (fun hc hcP=> ?_)<;>try(exfalso;omega))));(all_goals(conv=>whnf))
    all_goals first|(rw[Tl hk (by omega) (by omega) (by omega) (by omega)];exact zE)|(rw[aG hk (by omega) (by omega) (by omega) (by omega)];exact zE)
theorem kX {x:UInt8} (h:x.toNat%32=31):Ab Tryz.prog 146 [cv x.toNat] (fun r=>r= .tup [iv 0,bv false,iv 0,iv 3]):=(U6 x.toNat x.toNat_lt).mono fun r hr=>by rw[hr,yG,if_pos h]
theorem sY {x:UInt8} (h:¬x.toNat%32=31):Ab Tryz.prog 146 [cv x.toNat] (fun r=>r= .tup [iv (x.toNat/64:Nat),bv (x.toNat/32%2==1),iv (x.toNat%32:Nat),iv 0]):=(U6 x.toNat x.toNat_lt).mono fun r hr=>by rw[hr,yG,if_neg h]
structure Hd where
 c:Nat
 n:Nat
 k:Bool
 len:Nat
 size:Nat
 code:Nat
 off:Nat
def Hd.bad (code off:Nat):Hd:=⟨0,0,false,0,0,code,off⟩
def rhS:List UInt8→Hd
 |[]=> .bad 1 0
 |x::r=>if x.toNat%32=31 then .bad 3 0 else if(rlS r).2.2.1=0 then⟨x.toNat/64,x.toNat%32,x.toNat/32%2==1,(rlS r).1,(rlS r).2.1+1,0,0⟩ else .bad (rlS r).2.2.1 ((rlS r).2.2.2+1)
def hdA (h:Hd):AV:= .agg [iv h.c,iv h.n,bv h.k,iv h.len,iv h.size]
def erA (c o:Int):AV:= .agg [iv c,iv o]
def rhA (h:Hd):AV:= .tup [hdA h,erA h.code h.off]
theorem Pa (l:List UInt8):(rlS l).2.1≤5∧(rlS l).2.2.2≤l.length∧(rlS l).1≤2147483647∧((rlS l).2.2.1=0→(rlS l).2.1≤l.length∧1≤(rlS l).2.1∧(rlS l).2.2.2=0)∧(rlS l).2.2.1≤4:=by
 cases l with
 |nil=>simp[rlS]
 |cons x r=>
  have hx:=x.toNat_lt
  rw[rlS]
  by_cases h1:x.toNat<128
  ·rw[if_pos h1];simp;omega
  rw[if_neg h1]
  by_cases h2:x.toNat=128∨x.toNat>132
  ·rw[if_pos h2];simp
  rw[if_neg h2]
  by_cases h3:r.length<x.toNat-128
  ·rw[if_pos h3];simp
  rw[if_neg h3]
  by_cases h4:(r.headD 0).toNat=0∨beV (r.take (x.toNat-128))<128∨beV (r.take (x.toNat-128))>2147483647
  ·rw[if_pos h4];simp
  ·rw[if_neg h4];simp;omega
theorem Qe (l:List UInt8) (hl:l.length≤1000000000):Ab Tryz.prog 107 [.d (Af false l)] (fun r=>r=rhA (rhS l)):=by
 cases l with
 |nil=>
  refine acQ 54 Tryz.func107 rfl rfl fun _ _ _=> ?_
  (repeat'((conv=>whnf);refine Ac ?_));(all_goals(conv=>whnf))
  all_goals exact zE
 |cons x r=>
  have hx:=x.toNat_lt
  have h0:(x::r)[0]?=some x:=rfl
  simp only[Ag] at hl
  obtain⟨b1,b2,b3,b4,b5⟩:=Pa r
  by_cases h31:x.toNat%32=31
  ·rw[rhS,if_pos h31]
   refine acQ 54 Tryz.func107 rfl rfl fun _ _ _=> ?_
   (repeat'((conv=>whnf);first|refine Ac ?_|refine Ae ?_|refine Aa (kX h31) rfl ?_|refine NIdx.bytes h0 ?_|exact zE))
  ·refine acQ 54 Tryz.func107 rfl rfl fun _ _ _=> ?_
   (repeat'((conv=>whnf);first|refine Ae ?_|refine Aa (sY h31) rfl ?_|refine Aa (dZ r (by omega)) gvQ ?_|refine NIdx.bytes h0 ?_|refine F9 (1) ?_|(with_reducible refine NInt.i64 ?_)|refine zF ?_|(refine Cy (fun hc hcP=> ?_) (fun hc hcP=> ?_)<;>try(exfalso;omega))));(all_goals(conv=>whnf))
   ·have hz:¬(rlS r).2.2.1=0:=by omega
    rw[rhS,if_neg h31,if_neg hz];exact zE
   ·have hz:(rlS r).2.2.1=0:=by omega
    rw[rhS,if_neg h31,if_pos hz];exact zE
theorem Em (l:List UInt8):((rhS l).code=0→2≤(rhS l).size∧(rhS l).size≤l.length∧(rhS l).off=0)∧(rhS l).size≤6∧(rhS l).off≤l.length∧(rhS l).len≤2147483647∧(rhS l).code≤4∧(rhS l).c≤3∧(rhS l).n≤30:=by
 cases l with
 |nil=>simp[rhS,Hd.bad]
 |cons x r=>
  have hx:=x.toNat_lt
  obtain⟨b1,b2,b3,b4,b5⟩:=Pa r
  rw[rhS]
  by_cases h1:x.toNat%32=31
  ·rw[if_pos h1];simp[Hd.bad]
  rw[if_neg h1]
  by_cases h2:(rlS r).2.2.1=0
  ·rw[if_pos h2]
   have:=b4 h2
   simp only[Ag]
   refine⟨fun _=>⟨?_,?_,?_⟩,?_,?_,?_,?_,?_,?_⟩<;>omega
  ·rw[if_neg h2]
   simp only[Hd.bad,Ag]
   refine⟨fun h=>absurd h h2,?_,?_,?_,?_,?_,?_⟩<;>omega
structure El where
 c:Nat
 n:Nat
 k:Bool
 at':Nat
 body:Nat
 stop:Nat
 deriving DecidableEq
def El.zero:El:=⟨0,0,false,0,0,0⟩
structure ElR where
 x:El
 code:Nat
 off:Nat
def ElR.bad (code off:Nat):ElR:=⟨.zero,code,off⟩
def nxS (b:List UInt8) (at' en:Nat):ElR:=
 if(rhS ((b.drop at').take (en-at'))).code≠0 then .bad (rhS ((b.drop at').take (en-at'))).code ((rhS ((b.drop at').take (en-at'))).off+at')
 else if en-at'<(rhS ((b.drop at').take (en-at'))).size+(rhS ((b.drop at').take (en-at'))).len then .bad 1 en
 else⟨⟨(rhS ((b.drop at').take (en-at'))).c,(rhS ((b.drop at').take (en-at'))).n,(rhS ((b.drop at').take (en-at'))).k,at',at'+(rhS ((b.drop at').take (en-at'))).size,at'+(rhS ((b.drop at').take (en-at'))).size+(rhS ((b.drop at').take (en-at'))).len⟩,0,0⟩
def elC (e:El):List D:=[.v (.int .i64 e.c),.v (.int .i64 e.n),.v (.bool e.k),.v (.int .i64 e.at'),.v (.int .i64 e.body),.v (.int .i64 e.stop)]
def elA (e:El):AV:= .agg [iv e.c,iv e.n,bv e.k,iv e.at',iv e.body,iv e.stop]
def erR (r:ElR):AV:= .tup [elA r.x,erA r.code r.off]
theorem yJ {b:List UInt8} {at' en:Nat} {h:Hd} (hh:rhS ((b.drop at').take (en-at'))=h) (h1:h.code≠0):nxS b at' en= .bad h.code (h.off+at'):=by
 unfold nxS;rw[hh,if_pos h1]
theorem sZ {b:List UInt8} {at' en:Nat} {h:Hd} (hh:rhS ((b.drop at').take (en-at'))=h) (h1:h.code=0) (h2:en-at'<h.size+h.len):nxS b at' en= .bad 1 en:=by
 unfold nxS;rw[hh,if_neg (by omega),if_pos h2]
theorem yK {b:List UInt8} {at' en:Nat} {h:Hd} (hh:rhS ((b.drop at').take (en-at'))=h) (h1:h.code=0) (h2:h.size+h.len≤en-at'):nxS b at' en=⟨⟨h.c,h.n,h.k,at',at'+h.size,at'+h.size+h.len⟩,0,0⟩:=by
 unfold nxS;rw[hh,if_neg (by omega),if_neg (by omega)]
theorem eA (b:List UInt8) (at' en:Nat) (hb:b.length≤1000000000) (h1:at'≤en) (h2:en≤b.length):Ab Tryz.prog 78 [.d (Af false b),iv at',iv en] (fun r=>r=erR (nxS b at' en)):=by
 have hlen:((b.drop at').take (en-at')).length=en-at':=by simp;omega
 have hR:=Qe ((b.drop at').take (en-at')) (by omega)
 have hB:=Em ((b.drop at').take (en-at'))
 rw[hlen] at hB
 generalize hh:rhS ((b.drop at').take (en-at'))=h at hR hB
 obtain⟨c1,c2,c3,c4,c5,c6,c7⟩:=hB
 refine acQ 60 Tryz.func78 rfl rfl fun _ _ _=> ?_
 (repeat'((conv=>whnf);first|refine Aa hR gvQ ?_|refine NSl.slice (at') (en) ?_|(with_reducible refine NInt.i64 ?_)|refine zF ?_|(refine NBr.mk (fun hc=> ?_) (fun hc=> ?_)<;>(have hcP:=hc;(try simp only[decide_eq_true_eq,decide_eq_false_iff_not,bne_iff_ne,bne_eq_false_iff_eq,ne_eq] at hcP)<;>first|(exfalso;omega)|skip))));(all_goals(conv=>whnf))
 all_goals(refine Cg rfl (?_:_=_);try simp only[AV.dat,AV.dats])
 all_goals
  simp only[decide_eq_true_eq,decide_eq_false_iff_not,bne_iff_ne,bne_eq_false_iff_eq,ne_eq] at*
  first|(rw[yJ hh (by omega)];rfl)|(rw[sZ hh (by omega) (by omega)];rfl)|(rw[yK hh (by omega) (by omega)];rfl)
theorem Gt (b:List UInt8) (at' en:Nat) (h1:at'≤en) (h2:en≤b.length):((nxS b at' en).code=0→(nxS b at' en).x.at'=at'∧at'+2≤(nxS b at' en).x.body∧(nxS b at' en).x.body≤(nxS b at' en).x.stop∧(nxS b at' en).x.stop≤en∧(nxS b at' en).off=0)∧(nxS b at' en).code≤4∧(nxS b at' en).off≤en∧(nxS b at' en).x.c≤3∧(nxS b at' en).x.n≤30∧(nxS b at' en).x.stop≤en∧(nxS b at' en).x.body≤(nxS b at' en).x.stop:=by
 have hB:=Em ((b.drop at').take (en-at'))
 have hlen:((b.drop at').take (en-at')).length=en-at':=by simp;omega
 rw[hlen] at hB
 unfold nxS
 generalize rhS ((b.drop at').take (en-at'))=h at hB
 obtain⟨c1,c2,c3,c4,c5,c6,c7⟩:=hB
 by_cases k1:h.code≠0
 ·rw[if_pos k1];simp only[ElR.bad,El.zero];omega
 rw[if_neg k1]
 by_cases k2:en-at'<h.size+h.len
 ·rw[if_pos k2];simp only[ElR.bad,El.zero];omega
 have:=c1 (by omega)
 rw[if_neg k2]
 refine⟨fun _=>⟨rfl,?_,?_,?_,rfl⟩,?_,?_,?_,?_,?_,?_⟩<;>simp only[]<;>omega
def Bj (b:List UInt8):ElR:=if(nxS b 0 b.length).code=0∧(nxS b 0 b.length).x.stop<b.length then .bad 2 (nxS b 0 b.length).x.stop else nxS b 0 b.length
theorem Lp (b:List UInt8) (hb:b.length≤1000000000):Ab Tryz.prog 49 [.d (Af false b)] (fun r=>r=erR (Bj b)):=by
 have hR:=eA b 0 b.length hb (by omega) (by omega)
 have hB:=Gt b 0 b.length (by omega) (by omega)
 unfold Bj
 generalize hh:nxS b 0 b.length=h at hR hB⊢
 obtain⟨c1,c2,c3,c4,c5,c6,c7⟩:=hB
 by_cases k1:h.code=0
 ·by_cases k2:h.x.stop<b.length
  ·rw[if_pos ⟨k1,k2⟩]
   refine acQ 29 Tryz.func49 rfl rfl fun _ _ _=> ?_
   (repeat'((conv=>whnf);first|refine Ac ?_|refine Aa hR gvQ ?_|refine zF ?_|(refine NBr.mk (fun hc=> ?_) (fun hc=> ?_)<;>(have hcP:=hc;(try simp only[decide_eq_true_eq,decide_eq_false_iff_not,beq_iff_eq,beq_eq_false_iff_ne,ne_eq] at hcP)<;>first|(exfalso;omega)|skip))));(all_goals(conv=>whnf))
   all_goals(refine Cg rfl (?_:_=_);try simp only[AV.dat,AV.dats])
   all_goals rfl
  ·rw[if_neg (fun x=>k2 x.2)]
   refine acQ 29 Tryz.func49 rfl rfl fun _ _ _=> ?_
   (repeat'((conv=>whnf);first|refine Ac ?_|refine Aa hR gvQ ?_|refine zF ?_|(refine NBr.mk (fun hc=> ?_) (fun hc=> ?_)<;>(have hcP:=hc;(try simp only[decide_eq_true_eq,decide_eq_false_iff_not,beq_iff_eq,beq_eq_false_iff_ne,ne_eq] at hcP)<;>first|(exfalso;omega)|skip))));(all_goals(conv=>whnf))
   all_goals(refine Cg rfl (?_:_=_);try simp only[AV.dat,AV.dats])
   all_goals rfl
 ·rw[if_neg (fun x=>k1 x.1)]
  refine acQ 29 Tryz.func49 rfl rfl fun _ _ _=> ?_
  (repeat'((conv=>whnf);first|refine Ae ?_|refine Aa hR gvQ ?_|refine zF ?_|(refine NBr.mk (fun hc=> ?_) (fun hc=> ?_)<;>(have hcP:=hc;(try simp only[beq_iff_eq,beq_eq_false_iff_ne,ne_eq] at hcP)<;>first|(exfalso;omega)|skip))));(all_goals(conv=>whnf))
  all_goals(refine Cg rfl (?_:_=_);try simp only[AV.dat,AV.dats])
  all_goals rfl
def El.isB (e:El) (c n:Nat) (k:Bool):Bool:=e.c==c&&e.k==k&&e.n==n
theorem Ga (a b:Nat):((a:Int)==(b:Int))=(a==b):=by
 rw[Bool.eq_iff_iff];simp only[beq_iff_eq];omega
theorem Rs (e:El) (c n:Nat) (k:Bool):Ab Tryz.prog 65 [elA e,iv c,bv k,iv n] (fun r=>r=bv (e.isB c n k)):=by
 refine acQ 25 Tryz.func65 rfl rfl fun _ _ _=> ?_
 (repeat'((conv=>whnf);first|refine Ac ?_|refine Ae ?_|(refine NBr.mk (fun hc=> ?_) (fun hc=> ?_)<;>(have hcP:=hc;(try simp only[beq_iff_eq,beq_eq_false_iff_ne,ne_eq] at hcP)<;>first|(exfalso;omega)|skip))));(all_goals(conv=>whnf))
 all_goals(refine Cg rfl (?_:_=_);try simp only[AV.dat])
 all_goals
  simp only[Ga] at*
  simp only[El.isB, *]
  first|rfl|(simp;done)
def eB (a b:UInt8):Int:=if a.toNat<b.toNat then-1 else if b.toNat<a.toNat then 1 else 0
def Fi:List UInt8→List UInt8→Int
 |[],[]=>0
 |[],_::_=> -1
 |_::_,[]=>1
 |a::r,b::s=>if a.toNat<b.toNat then-1 else if b.toNat<a.toNat then 1 else Fi r s
theorem Yk {a b:List UInt8}:∀{i:Nat} {x y:UInt8},a[i]?=some x→b[i]?=some y→Fi (a.drop i) (b.drop i)=if x.toNat<y.toNat then-1 else if y.toNat<x.toNat then 1 else Fi (a.drop (i+1)) (b.drop (i+1)):=by
 intro i x y h1 h2
 obtain⟨l1,e1⟩:=Aw.1 h1
 obtain⟨l2,e2⟩:=Aw.1 h2
 rw[List.drop_eq_getElem_cons l1,List.drop_eq_getElem_cons l2,e1,e2,Fi]
theorem nZ (n:Nat):Ab Tryz.prog 210 [cv n] (fun r=>r=bv false):=by
 refine acQ 6 Tryz.func210 rfl rfl fun _ _ _=> ?_
 (all_goals(conv=>whnf))
 all_goals(refine Cg rfl (?_:_=_);try simp only[AV.dat])
 all_goals simp
theorem yL (a b:UInt8):Ab Tryz.prog 181 [cv a.toNat,cv b.toNat] (fun r=>r=iv (eB a b)):=by
 refine acQ 20 Tryz.func181 rfl rfl fun _ _ _=> ?_
 (repeat'((conv=>whnf);first|refine Ae ?_|refine Aa (nZ a.toNat) rfl ?_|refine Aa (nZ b.toNat) rfl ?_|(refine Ai (fun hc hcP=> ?_) (fun hc hcP=> ?_)<;>try(exfalso;omega))));(all_goals(conv=>whnf))
 all_goals(refine Cg rfl (?_:_=_);try simp only[AV.dat])
 all_goals
  simp only[decide_eq_true_eq,decide_eq_false_iff_not] at*
  unfold eB
  first|(rw[if_pos (by omega)])|(rw[if_neg (by omega),if_pos (by omega)])|(rw[if_neg (by omega),if_neg (by omega)])
theorem U8 (a b:UInt8):Ab Tryz.prog 180 [cv a.toNat,cv b.toNat] (fun r=>r=iv (eB a b)):=by
 refine acQ 8 Tryz.func180 rfl rfl fun _ _ _=> ?_
 (repeat'((conv=>whnf);refine Aa (yL a b) rfl ?_));(all_goals(conv=>whnf))
 all_goals(refine Cg rfl (?_:_=_);try simp only[AV.dat])
 all_goals rfl
theorem yM (a b:List UInt8) (ha:a.length≤1000000000) (hb:b.length≤1000000000):Ab Tryz.prog 179 [.d (Af false a),.d (Af false b),.d (.fn 180 [])] (fun r=>r=iv (Fi a b)):=by
 refine acQ 39 Tryz.func179 rfl rfl fun _ _ _=> ?_
 (all_goals(conv=>whnf))
 refine Ax (fun i:Nat=>i≤a.length∧i≤b.length∧Fi a b=Fi (a.drop i) (b.drop i)) (fun i=>a.length-i) (fun i=>⟨[(0,.d (Af false a)),(1,.d (Af false b)),(2,.d (.fn 180 [])),(6,iv 0),(11,.d (Af false a)),(12,iv a.length),(13,iv i)],[],[]⟩) 0 ⟨by omega,by omega,rfl⟩ leQ ?_
 ·rintro i ⟨hi1,hi2,he⟩
  by_cases hia:i<a.length
  ·obtain⟨x,hx⟩:∃x,a[i]?=some x:=⟨_,Am hia⟩
   by_cases hib:i<b.length
   ·obtain⟨y,hy⟩:∃y,b[i]?=some y:=⟨_,Am hib⟩
    rw[Yk hx hy] at he
    by_cases h1:x.toNat<y.toNat
    ·have hc:eB x y= -1:=if_pos h1
     have hC:=U8 x y
     rw[hc] at hC
     (repeat'((conv=>whnf);first|refine Ac ?_|refine NIdx.bytes hx ?_|refine NIdx.bytes hy ?_|refine Aa hC rfl ?_|(refine Ai (fun hc hcP=> ?_) (fun hc hcP=> ?_)<;>try(exfalso;omega))));(all_goals(conv=>whnf))
     all_goals(refine Cg rfl (?_:_=_);try simp only[AV.dat])
     all_goals(rw[he,if_pos h1])
    by_cases h2:y.toNat<x.toNat
    ·have hc:eB x y=1:=by unfold eB;rw[if_neg h1,if_pos h2]
     have hC:=U8 x y
     rw[hc] at hC
     (repeat'((conv=>whnf);first|refine Ac ?_|refine NIdx.bytes hx ?_|refine NIdx.bytes hy ?_|refine Aa hC rfl ?_|(refine Ai (fun hc hcP=> ?_) (fun hc hcP=> ?_)<;>try(exfalso;omega))));(all_goals(conv=>whnf))
     all_goals(refine Cg rfl (?_:_=_);try simp only[AV.dat])
     all_goals(rw[he,if_neg h1,if_pos h2])
    ·have hc:eB x y=0:=by unfold eB;rw[if_neg h1,if_neg h2]
     have hC:=U8 x y
     rw[hc] at hC
     rw[if_neg h1,if_neg h2] at he
     (repeat'((conv=>whnf);first|refine Ae ?_|refine NIdx.bytes hx ?_|refine NIdx.bytes hy ?_|refine Aa hC rfl ?_|(with_reducible refine NInt.i64 ?_)|(refine Ai (fun hc hcP=> ?_) (fun hc hcP=> ?_)<;>try(exfalso;omega))));(all_goals(conv=>whnf))
     refine⟨i+1,⟨by omega,by omega,he⟩,by omega,?_⟩
     exact leQ
   ·obtain rfl:i=b.length:=by omega
    (repeat'((conv=>whnf);first|refine NIdx.bytes hx ?_|(refine Ai (fun hc hcP=> ?_) (fun hc hcP=> ?_)<;>try(exfalso;omega))));(all_goals(conv=>whnf))
    all_goals(refine Cg rfl (?_:_=_);try simp only[AV.dat])
    all_goals
     rw[he,List.drop_length,List.drop_eq_getElem_cons hia,Fi]
  ·obtain rfl:i=a.length:=by omega
   (repeat'((conv=>whnf);(refine Ai (fun hc hcP=> ?_) (fun hc hcP=> ?_)<;>try(exfalso;omega))));(all_goals(conv=>whnf))
   all_goals(refine Cg rfl (?_:_=_);try simp only[AV.dat])
   all_goals
    rw[he,List.drop_length]
    simp only[decide_eq_true_eq,decide_eq_false_iff_not] at*
   ·rw[List.drop_eq_getElem_cons (by omega),Fi]
   ·obtain hl:b.length≤a.length:=by omega
    rw[List.drop_of_length_le hl,Fi]
theorem FS (a b:List UInt8) (ha:a.length≤1000000000) (hb:b.length≤1000000000):Ab Tryz.prog 140 [.d (Af false a),.d (Af false b)] (fun r=>r=iv (Fi a b)):=by
 refine acQ 8 Tryz.func140 rfl rfl fun _ _ _=> ?_
 (repeat'((conv=>whnf);refine Aa (yM a b ha hb) gvQ ?_));(all_goals(conv=>whnf))
 all_goals(refine Cg rfl (?_:_=_);try simp only[AV.dat])
 all_goals rfl
def Ka (n:Nat):List UInt8:=if n<256 then [UInt8.ofNat n] else Ka (n/256)++[UInt8.ofNat (n%256)]
termination_by n
decreasing_by omega
theorem C4 {n:Nat} (h:n<256):Ka n=[UInt8.ofNat n]:=by rw[Ka,if_pos h]
theorem Iu {n:Nat} (h:¬n<256):Ka n=Ka (n/256)++[UInt8.ofNat (n%256)]:=by rw[Ka,if_neg h]
theorem I8:∀(k n:Nat),n<256^(k+1)→1≤(Ka n).length∧(Ka n).length≤k+1
 |0,n,h=>by rw[C4 (by omega)];simp
 |k+1,n,h=>by
  by_cases h1:n<256
  ·rw[C4 h1];simp
  ·rw[Iu h1]
   have:=I8 k (n/256) (by rw[Nat.pow_succ] at h;omega)
   simp;omega
theorem yN (n:Nat) (hn:n≤18446744073709551615):Ab Tryz.prog 172 [.d (.v (.int .u64 (n:Int)))] (fun r=>r=Bb 0 5 (Ka n)):=by
 induction n using Nat.strongRecOn with
 |ind n ih=>
  by_cases h:n<256
  ·rw[C4 h]
   refine acQ 16 Tryz.func172 rfl rfl fun _ _ _=> ?_
   (repeat'((conv=>whnf);first|(with_reducible refine Ky ?_)|(refine Ai (fun hc hcP=> ?_) (fun hc hcP=> ?_)<;>try(exfalso;omega))|exact zE))
  ·rw[Iu h]
   have hM:=ih (n/256) (by omega) (by omega)
   have hl:=(I8 7 (n/256) (by omega)).2
   refine acQ 16 Tryz.func172 rfl rfl fun _ _ _=> ?_
   (repeat'((conv=>whnf);first|refine Aa hM rfl ?_|(with_reducible refine Ky ?_)|refine Is (_) ?_|(with_reducible refine Bz ?_)|(with_reducible refine Bh ?_)|refine Au (by first|decide|omega|(simp only[Ag,List.length_nil];omega)) ?_|(refine Ai (fun hc hcP=> ?_) (fun hc hcP=> ?_)<;>try(exfalso;omega))|exact zE))
theorem eC (a b:List UInt8) (ha:a.length≤1000000000) (hb:b.length≤1000000000):Ab Tryz.prog 203 [.d (Af false a),.d (Af false b)] (fun r=>r=iv (Fi a b)):=by
 refine acQ 46 Tryz.func203 rfl rfl fun _ _ _=> ?_
 (all_goals(conv=>whnf))
 refine Ax (fun i:Nat=>i≤a.length∧i≤b.length∧Fi a b=Fi (a.drop i) (b.drop i)) (fun i=>a.length-i) (fun i=>⟨[(0,.d (Af false a)),(1,.d (Af false b)),(4,iv 0),(5,iv i)],[],[]⟩) 0 ⟨by omega,by omega,rfl⟩ leQ ?_
 ·rintro i ⟨hi1,hi2,he⟩
  by_cases hia:i<a.length
  ·obtain⟨x,hx⟩:∃x,a[i]?=some x:=⟨_,Am hia⟩
   by_cases hib:i<b.length
   ·obtain⟨y,hy⟩:∃y,b[i]?=some y:=⟨_,Am hib⟩
    rw[Yk hx hy] at he
    by_cases h1:x.toNat<y.toNat
    ·(repeat'((conv=>whnf);first|refine Ac ?_|refine NIdx.bytes hx ?_|refine NIdx.bytes hy ?_|refine zF ?_|(refine Ai (fun hc hcP=> ?_) (fun hc hcP=> ?_)<;>try(exfalso;omega))));(all_goals(conv=>whnf))
     all_goals(refine Cg rfl (?_:_=_);try simp only[AV.dat])
     all_goals(rw[he,if_pos h1])
    by_cases h2:y.toNat<x.toNat
    ·(repeat'((conv=>whnf);first|refine Ac ?_|refine NIdx.bytes hx ?_|refine NIdx.bytes hy ?_|refine zF ?_|(refine Ai (fun hc hcP=> ?_) (fun hc hcP=> ?_)<;>try(exfalso;omega))));(all_goals(conv=>whnf))
     all_goals(refine Cg rfl (?_:_=_);try simp only[AV.dat])
     all_goals(rw[he,if_neg h1,if_pos h2])
    ·rw[if_neg h1,if_neg h2] at he
     (repeat'((conv=>whnf);first|refine Ac ?_|refine NIdx.bytes hx ?_|refine NIdx.bytes hy ?_|(with_reducible refine NInt.i64 ?_)|refine zF ?_|(refine Ai (fun hc hcP=> ?_) (fun hc hcP=> ?_)<;>try(exfalso;omega))));(all_goals(conv=>whnf))
     refine⟨i+1,⟨by omega,by omega,he⟩,by omega,?_⟩
     exact leQ
   ·obtain rfl:i=b.length:=by omega
    (repeat'((conv=>whnf);first|refine Ac ?_|refine Ay asP ?_|(refine Ai (fun hc hcP=> ?_) (fun hc hcP=> ?_)<;>try(exfalso;omega))));(all_goals(conv=>whnf))
    all_goals(refine Cg rfl (?_:_=_);try simp only[AV.dat])
    all_goals
     rw[he,List.drop_length,List.drop_eq_getElem_cons hia,Fi]
  ·obtain rfl:i=a.length:=by omega
   (repeat'((conv=>whnf);first|refine Ae ?_|(refine Ai (fun hc hcP=> ?_) (fun hc hcP=> ?_)<;>try(exfalso;omega))));(all_goals(conv=>whnf))
   all_goals(refine Cg rfl (?_:_=_);try simp only[AV.dat])
   all_goals
    rw[he,List.drop_length]
    simp only[decide_eq_true_eq,decide_eq_false_iff_not] at*
   ·rw[List.drop_eq_getElem_cons (by omega),Fi]
   ·obtain hl:b.length≤a.length:=by omega
    rw[List.drop_of_length_le hl,Fi]
theorem yO (r:List UInt8):beV ((0:UInt8)::r)=beV r:=by simp[beV]
theorem tA (l:List UInt8) (hl:l.length≤8):Ab Tryz.prog 223 [.d (Af false l)] (fun r=>r= .tup [.d (.v (.int .u64 (beV l:Nat))),bv true]):=by
 refine acQ 35 Tryz.func223 rfl rfl fun _ _ _=> ?_
 (all_goals(conv=>whnf))
 refine Ax (fun rest:List UInt8=>beV rest=beV l∧rest.length≤l.length) (fun rest=>rest.length) (fun rest=>⟨[(0,.d (Af false rest)),(2,.d (.v (.int .u64 0))),(3,bv false)],[],[]⟩) l ⟨rfl,by omega⟩ leQ ?_
 ·rintro rest ⟨he,hle⟩
  by_cases hz:∃r,rest=0::r
  ·obtain⟨r,rfl⟩:=hz
   have h0:((0:UInt8)::r)[0]?=some 0:=rfl
   simp only[Ag] at hle
   (repeat'((conv=>whnf);first|refine Ac ?_|refine NIdx.bytes h0 ?_|refine F9 (1) ?_|(refine NBr.mk (fun hc=> ?_) (fun hc=> ?_)<;>(have hcP:=hc;(try simp only[zS] at hcP)<;>first|(exfalso;omega)|skip))));(all_goals(conv=>whnf))
   refine⟨r,⟨(yO r).symm.trans he,by omega⟩,by simp,?_⟩
   exact leQ
  ·rcases rest with _|⟨x,r⟩
   ·(repeat'((conv=>whnf);refine Ae ?_));(all_goals(conv=>whnf))
    refine Ax (fun _:Unit=>True) (fun _=>0) (fun _=>⟨[(0,.d (Af false [])),(2,.d (.v (.int .u64 0))),(3,bv false),(4,.d (.v (.int .u64 0))),(5,iv 0)],[],[]⟩) () trivial leQ ?_
    ·rintro _ _
     (repeat'((conv=>whnf);refine Ae ?_));(all_goals(conv=>whnf))
     all_goals(rw[←he];exact zE)
   ·have h0:(x::r)[0]?=some x:=rfl
    have hx0:x.toNat≠0:=fun h=>hz ⟨r,by rw[show x=0 from UInt8.toNat_inj.1 h]⟩
    simp only[Ag] at hle
    (repeat'((conv=>whnf);first|refine Ac ?_|refine NIdx.bytes h0 ?_|(refine NBr.mk (fun hc=> ?_) (fun hc=> ?_)<;>(have hcP:=hc;(try simp only[zS] at hcP)<;>first|(exfalso;omega)|skip))));(all_goals(conv=>whnf))
    refine Ax (fun i:Nat=>i≤r.length+1) (fun i=>r.length+1-i) (fun i=>⟨[(0,.d (Af false (x::r))),(2,.d (.v (.int .u64 0))),(3,bv false),(4,.d (.v (.int .u64 (beV ((x::r).take i):Nat)))),(5,iv i)],[],[]⟩) 0 (by omega) leQ ?_
    ·intro i hi
     by_cases hik:i<r.length+1
     ·have hik':i<(x::r).length:=by rw[Ag];exact hik
      obtain⟨b,hb⟩:∃b,(x::r)[i]?=some b:=⟨_,Am hik'⟩
      have hsn:beV ((x::r).take (i+1))=beV ((x::r).take i)*256+b.toNat:=by
       have hg:=Am hik'
       rw[hb] at hg
       rw[List.take_succ_eq_append_getElem hik',Qd]
       cases hg;rfl
      have hbt:=b.toNat_lt
      have hB:beV ((x::r).take i)<256^7:=by
       refine Nat.lt_of_lt_of_le (kW _) (Nat.pow_le_pow_right (by omega) ?_)
       rw[Al];omega
      (repeat'((conv=>whnf);first|refine NIdx.bytes hb ?_|(with_reducible refine NInt.i64 ?_)|(with_reducible refine NInt.u64 ?_)|(refine NBr.mk (fun hc=> ?_) (fun hc=> ?_)<;>(have hcP:=hc;(try simp only[zS] at hcP)<;>first|(exfalso;omega)|skip))));(all_goals(conv=>whnf))
      refine⟨i+1,by omega,by omega,?_⟩
      rw[hsn]
      exact leQ
     ·obtain rfl:i=r.length+1:=by omega
      have ht:(x::r).take (r.length+1)=x::r:=List.take_length (l:=x::r)
      rw[ht,he]
      (repeat'((conv=>whnf);(refine NBr.mk (fun hc=> ?_) (fun hc=> ?_)<;>(have hcP:=hc;(try simp only[zS] at hcP)<;>first|(exfalso;omega)|skip))));(all_goals(conv=>whnf))
      all_goals exact zE
      all_goals rfl
def Fm (n:Nat):List UInt8:=if n<128 then Ka n else UInt8.ofNat (128+(Ka n).length)::Ka n
theorem eD (n:Nat) (hn:n≤2147483647):Ab Tryz.prog 127 [iv n] (fun r=>r= .tup [Bb 0 5 (Fm n),iv 0]):=by
 have hM:=yN n (by omega)
 have hL:=I8 3 n (by omega)
 by_cases h:n<128
 ·rw[Fm,if_pos h]
  refine acQ 24 Tryz.func127 rfl rfl fun _ _ _=> ?_
  (repeat'((conv=>whnf);first|refine Ae ?_|refine Aa hM rfl ?_|(with_reducible refine NInt.u64 ?_)|(refine NBr.mk (fun hc=> ?_) (fun hc=> ?_)<;>(have hcP:=hc;(try simp only[zS] at hcP)<;>first|(exfalso;omega)|skip))|exact zE))
  all_goals rfl
 ·rw[Fm,if_neg h]
  refine acQ 24 Tryz.func127 rfl rfl fun _ _ _=> ?_
  (repeat'((conv=>whnf);first|refine Ae ?_|refine Aa hM rfl ?_|(with_reducible refine Bi (128+(Ka n).length) ?_)|refine Mp ([UInt8.ofNat (128+(Ka n).length)]) ?_|(with_reducible refine NInt.i64 ?_)|(with_reducible refine NInt.u64 ?_)|(refine NBr.mk (fun hc=> ?_) (fun hc=> ?_)<;>(have hcP:=hc;(try simp only[zS] at hcP)<;>first|(exfalso;omega)|skip))|exact zE))
  all_goals rfl
theorem Lq (x:UInt8):UInt8.ofNat x.toNat=x:=UInt8.toNat_inj.1 (by rw[UInt8.toNat_ofNat'];have:=x.toNat_lt;omega)
theorem eE (x:UInt8) (hx:x.toNat≠0):∀(k:Nat) (r:List UInt8),r.length=k→Ka (beV (x::r))=x::r∧1≤beV (x::r):=by
 intro k
 induction k with
 |zero=>
  intro r hr
  rw[List.length_eq_zero_iff] at hr
  subst hr
  have:=x.toNat_lt
  have hb:beV [x]=x.toNat:=by simp[beV]
  rw[hb,C4 (by omega),Lq]
  exact⟨rfl,by omega⟩
 |succ k ih=>
  intro r hr
  obtain⟨s,b,rfl⟩:∃s b,r=s++[b]:=⟨r.dropLast,r.getLast (by intro h;simp[h] at hr),(List.dropLast_concat_getLast _).symm⟩
  have hs:s.length=k:=by simp at hr;omega
  obtain⟨h1,h2⟩:=ih s hs
  have hb:=b.toNat_lt
  have he:beV (x::(s++[b]))=beV (x::s)*256+b.toNat:=by rw[←List.cons_append,Qd]
  rw[he,Iu (by omega),show(beV (x::s)*256+b.toNat)/256=beV (x::s) by omega,show(beV (x::s)*256+b.toNat)%256=b.toNat by omega,h1,Lq]
  exact⟨by simp,by omega⟩
theorem Rt:∀(k n:Nat),n<256^(k+1)→1≤n→∃y s,Ka n=y::s∧y.toNat≠0
 |0,n,h,h1=>⟨_,_,C4 (by omega),by rw[UInt8.toNat_ofNat'];omega⟩
 |k+1,n,h,h1=>by
  by_cases h2:n<256
  ·exact⟨_,_,C4 h2,by rw[UInt8.toNat_ofNat'];omega⟩
  ·obtain⟨y,s,e1,e2⟩:=Rt k (n/256) (by rw[Nat.pow_succ] at h;omega) (by omega)
   exact⟨y,s++[UInt8.ofNat (n%256)],by rw[Iu h2,e1];rfl,e2⟩
theorem oA:∀{a b:List UInt8},Fi a b=0↔a=b
 |[],[]=>by simp[Fi]
 |[],_::_=>by simp[Fi]
 |_::_,[]=>by simp[Fi]
 |x::r,y::s=>by
  rw[Fi]
  by_cases h1:x.toNat<y.toNat
  ·rw[if_pos h1]
   refine⟨fun h=>by omega,fun h=> ?_⟩
   rw[List.cons.injEq] at h
   rw[h.1] at h1;omega
  rw[if_neg h1]
  by_cases h2:y.toNat<x.toNat
  ·rw[if_pos h2]
   refine⟨fun h=>by omega,fun h=> ?_⟩
   rw[List.cons.injEq] at h
   rw[h.1] at h2;omega
  rw[if_neg h2,oA,List.cons.injEq]
  exact⟨fun h=>⟨UInt8.toNat_inj.1 (by omega),h⟩,fun h=>h.2⟩
theorem yP {x y:UInt8} {s:List UInt8} {k:Nat} (hk:x.toNat=k+128) (hs:s.length+1=k) (h4:k≤4) (hn:beV (y::s)≤2147483647):Fi (Fm (beV (y::s))) (x::y::s)=0↔y.toNat≠0∧128≤beV (y::s):=by
 rw[oA]
 constructor
 ·intro h
  by_cases h1:beV (y::s)<128
  ·rw[Fm,if_pos h1,C4 (by omega)] at h
   simp at h
  ·rw[Fm,if_neg h1,List.cons.injEq] at h
   obtain⟨y',s',e1,e2⟩:=Rt 3 (beV (y::s)) (by omega) (by omega)
   rw[e1,List.cons.injEq] at h
   exact⟨by rw[←h.2.1];exact e2,by omega⟩
 ·rintro⟨h1,h2⟩
  have h3:=(eE y h1 _ s rfl).1
  rw[Fm,if_neg (by omega),h3,List.cons.injEq]
  refine⟨UInt8.toNat_inj.1 ?_,rfl⟩
  rw[UInt8.toNat_ofNat',hk,Ag,hs];omega
theorem I9 (n:Nat) (h:n≤2147483647):1≤(Fm n).length∧(Fm n).length≤5:=by
 have:=I8 3 n (by omega)
 unfold Fm
 split
 ·omega
 ·simp only[Ag];omega
theorem aH (l:List UInt8) (hl:l.length≤1000000000):Ab Tryz.prog 200 [.d (Af false l)] (fun r=>r=rlA (rlS l)):=by
 cases l with
 |nil=>
  refine acQ 73 Tryz.func200 rfl rfl fun _ _ _=> ?_
  (repeat'((conv=>whnf);refine Ac ?_));(all_goals(conv=>whnf))
  all_goals exact zE
  all_goals rfl
 |cons x r=>
  have hx:=x.toNat_lt
  have h0:(x::r)[0]?=some x:=rfl
  simp only[Ag] at hl
  by_cases h1:x.toNat<128
  ·rw[Nu h1]
   refine acQ 73 Tryz.func200 rfl rfl fun _ _ _=> ?_
   (repeat'((conv=>whnf);first|refine Ae ?_|refine NIdx.bytes h0 ?_|(with_reducible refine NInt.i64 ?_)|(refine NBr.mk (fun hc=> ?_) (fun hc=> ?_)<;>(have hcP:=hc;(try simp only[zS] at hcP)<;>first|(exfalso;omega)|skip))|exact zE))
   all_goals rfl
  by_cases h2:x.toNat=128∨x.toNat>132
  ·rw[U7 (by omega) h2]
   refine acQ 73 Tryz.func200 rfl rfl fun _ _ _=> ?_
   (repeat'((conv=>whnf);first|refine Ac ?_|refine Ae ?_|refine NIdx.bytes h0 ?_|(with_reducible refine NInt.i64 ?_)|(refine NBr.mk (fun hc=> ?_) (fun hc=> ?_)<;>(have hcP:=hc;(try simp only[zS] at hcP)<;>first|(exfalso;omega)|skip))|exact zE))
   all_goals rfl
  obtain⟨k,hk⟩:∃k:Nat,x.toNat=k+128:=⟨x.toNat-128,by omega⟩
  by_cases h3:r.length<k
  ·rw[Rr (by omega) (by omega) (by omega)]
   refine acQ 73 Tryz.func200 rfl rfl fun _ _ _=> ?_
   (repeat'((conv=>whnf);first|refine Ae ?_|refine NIdx.bytes h0 ?_|(with_reducible refine NInt.i64 ?_)|(refine NBr.mk (fun hc=> ?_) (fun hc=> ?_)<;>(have hcP:=hc;(try simp only[zS] at hcP)<;>first|(exfalso;omega)|skip))|exact zE))
   all_goals rfl
  ·cases r with
   |nil=>simp only[List.length_nil] at*;omega
   |cons y s=>
    simp only[Ag] at hl h3
    obtain⟨j,rfl⟩:∃j,k=j+1:=⟨k-1,by omega⟩
    have hT:(y::s).take (j+1)=y::s.take j:=rfl
    have hlj:(s.take j).length=j:=by rw[Al];omega
    have hU:=tA (y::s.take j) (by rw[Ag,hlj];omega)
    have hbv:=kW (y::s.take j)
    rw[Ag,hlj] at hbv
    have hb32:beV (y::s.take j)<4294967296:=Nat.lt_of_lt_of_le hbv (Nat.le_trans (Nat.pow_le_pow_right (by omega) (show j+1≤4 by omega)) (by decide))
    by_cases h5:beV (y::s.take j)>2147483647
    ·rw[Tl hk (by omega) (by omega) (by omega) (Or.inr (Or.inr h5))]
     refine acQ 73 Tryz.func200 rfl rfl fun _ _ _=> ?_
     (repeat'((conv=>whnf);first|refine Ae ?_|refine NIdx.bytes h0 ?_|refine Aa hU gvQ ?_|refine NSl.slice (1) (j+2) ?_|(with_reducible refine NInt.i64 ?_)|(refine NBr.mk (fun hc=> ?_) (fun hc=> ?_)<;>(have hcP:=hc;(try simp only[zS] at hcP)<;>first|(exfalso;omega)|skip))|exact zE))
     all_goals rfl
    ·have hL:=eD (beV (y::s.take j)) (by omega)
     have hLl:=I9 (beV (y::s.take j)) (by omega)
     have hC:=eC (Fm (beV (y::s.take j))) (x::y::s.take j) (by omega) (by simp only[Ag,hlj];omega)
     have hI:=yP (y:=y) (s:=s.take j) hk (by rw[hlj]) (by omega) (by omega)
     by_cases h6:y.toNat≠0∧128≤beV (y::s.take j)
     ·rw[aG hk (by omega) (by omega) (by omega) (by rw[hT];omega),hT]
      have h7:=hI.2 h6
      rw[h7] at hC
      refine acQ 73 Tryz.func200 rfl rfl fun _ _ _=> ?_
      (repeat'((conv=>whnf);first|refine Ae ?_|refine NIdx.bytes h0 ?_|refine Aa hU gvQ ?_|refine Aa hL rfl ?_|refine Aa hC gvQ ?_|refine dV (j+2) ?_|refine NSl.slice (1) (j+2) ?_|(with_reducible refine NInt.i64 ?_)|(refine NBr.mk (fun hc=> ?_) (fun hc=> ?_)<;>(have hcP:=hc;(try simp only[zS] at hcP)<;>first|(exfalso;omega)|skip))|exact zE))
     ·rw[Tl hk (by omega) (by omega) (by omega) (by rw[hT];omega)]
      have h7:¬Fi (Fm (beV (y::s.take j))) (x::y::s.take j)=0:=fun h=>h6 (hI.1 h)
      refine acQ 73 Tryz.func200 rfl rfl fun _ _ _=> ?_
      (repeat'((conv=>whnf);first|refine Ae ?_|refine NIdx.bytes h0 ?_|refine Aa hU gvQ ?_|refine Aa hL rfl ?_|refine Aa hC gvQ ?_|refine dV (j+2) ?_|refine NSl.slice (1) (j+2) ?_|(with_reducible refine NInt.i64 ?_)|(refine NBr.mk (fun hc=> ?_) (fun hc=> ?_)<;>(have hcP:=hc;(try simp only[zS] at hcP)<;>first|(exfalso;omega)|skip))|exact zE))
      all_goals rfl
theorem eF {x:UInt8} (h:x.toNat%32=31):Ab Tryz.prog 199 [cv x.toNat] (fun r=>r= .tup [iv 0,bv false,iv 0,iv 3]):=by
 have hx:=x.toNat_lt
 refine acQ 20 Tryz.func199 rfl rfl fun _ _ _=> ?_
 (repeat'((conv=>whnf);first|(with_reducible refine NInt.i64 ?_)|(with_reducible refine Bh ?_)|refine Au (by first|decide|omega|(simp only[Ag,List.length_nil];omega)) ?_|(refine Ai (fun hc hcP=> ?_) (fun hc hcP=> ?_)<;>try(exfalso;omega))|exact zE))
 all_goals rfl
theorem kY {x:UInt8} (h:¬x.toNat%32=31):Ab Tryz.prog 199 [cv x.toNat] (fun r=>r= .tup [iv (x.toNat/64:Nat),bv (x.toNat/32%2==1),iv (x.toNat%32:Nat),iv 0]):=by
 have hx:=x.toNat_lt
 refine acQ 20 Tryz.func199 rfl rfl fun _ _ _=> ?_
 (repeat'((conv=>whnf);first|(with_reducible refine NInt.i64 ?_)|(with_reducible refine Bz ?_)|(with_reducible refine Bh ?_)|refine Au (by first|decide|omega|(simp only[Ag,List.length_nil];omega)) ?_|(refine Ai (fun hc hcP=> ?_) (fun hc hcP=> ?_)<;>try(exfalso;omega))));(all_goals(conv=>whnf))
 all_goals(refine A7 ?_;(repeat'(first|exact trivial|exact Be _|refine And.intro ?_ ?_|exact rfl));(all_goals(conv=>whnf)))
 all_goals(rw[←Ga];rfl)
theorem Xp (l:List UInt8) (hl:l.length≤1000000000):Ab Tryz.prog 157 [.d (Af false l)] (fun r=>r=rhA (rhS l)):=by
 cases l with
 |nil=>
  refine acQ 55 Tryz.func157 rfl rfl fun _ _ _=> ?_
  (repeat'((conv=>whnf);refine Ac ?_));(all_goals(conv=>whnf))
  all_goals exact zE
  all_goals rfl
 |cons x r=>
  have hx:=x.toNat_lt
  have h0:(x::r)[0]?=some x:=rfl
  simp only[Ag] at hl
  obtain⟨b1,b2,b3,b4,b5⟩:=Pa r
  by_cases h31:x.toNat%32=31
  ·refine acQ 55 Tryz.func157 rfl rfl fun _ _ _=> ?_
   (repeat'((conv=>whnf);first|refine Ac ?_|refine Ae ?_|refine Aa (eF h31) rfl ?_|refine NIdx.bytes h0 ?_));(all_goals(conv=>whnf))
   all_goals(rw[rhS,if_pos h31];exact zE)
  ·refine acQ 55 Tryz.func157 rfl rfl fun _ _ _=> ?_
   (repeat'((conv=>whnf);first|refine Ae ?_|refine Aa (kY h31) rfl ?_|refine Aa (aH r (by omega)) gvQ ?_|refine NIdx.bytes h0 ?_|refine F9 (1) ?_|(with_reducible refine NInt.i64 ?_)|refine zF ?_|(refine Cy (fun hc hcP=> ?_) (fun hc hcP=> ?_)<;>try(exfalso;omega))));(all_goals(conv=>whnf))
   ·have hz:¬(rlS r).2.2.1=0:=by omega
    rw[rhS,if_neg h31,if_neg hz];exact zE
   ·have hz:(rlS r).2.2.1=0:=by omega
    rw[rhS,if_neg h31,if_pos hz];exact zE
def kZ (l:List UInt8):AV:=
 if(rhS l).code≠0 then .tup [hdA (.bad 0 0),A4,A4,erA (rhS l).code (rhS l).off]
 else if l.length<(rhS l).size+(rhS l).len then .tup [hdA (.bad 0 0),A4,A4,erA 1 l.length]
 else .tup [hdA (rhS l),.d (Af false ((l.drop (rhS l).size).take (rhS l).len)),.d (Af false (l.drop ((rhS l).size+(rhS l).len))),erA 0 0]
theorem tB (l:List UInt8) (hl:l.length≤1000000000):Ab Tryz.prog 115 [.d (Af false l)] (fun r=>r=kZ l):=by
 have hR:=Xp l hl
 have hB:=Em l
 unfold kZ
 generalize hh:rhS l=h at hR hB⊢
 obtain⟨c1,c2,c3,c4,c5,c6,c7⟩:=hB
 by_cases k1:h.code=0
 ·have c1':=c1 k1
  by_cases k2:l.length<h.size+h.len
  ·rw[if_neg (by omega),if_pos k2]
   refine acQ 48 Tryz.func115 rfl rfl fun _ _ _=> ?_
   (repeat'((conv=>whnf);first|refine Aa hR gvQ ?_|(with_reducible refine NInt.i64 ?_)|(refine Ai (fun hc hcP=> ?_) (fun hc hcP=> ?_)<;>try(exfalso;omega))|(refine Cy (fun hc hcP=> ?_) (fun hc hcP=> ?_)<;>try(exfalso;omega))|exact zE))
   all_goals rfl
  ·rw[if_neg (by omega),if_neg k2]
   refine acQ 48 Tryz.func115 rfl rfl fun _ _ _=> ?_
   (repeat'((conv=>whnf);first|refine Aa hR gvQ ?_|(refine NSl.bytes h.size (h.size+h.len) ((l.drop h.size).take h.len) (by rw[Nat.add_sub_cancel_left]) ?_)|refine F9 (h.size+h.len) ?_|(with_reducible refine NInt.i64 ?_)|refine zF ?_|(refine Ai (fun hc hcP=> ?_) (fun hc hcP=> ?_)<;>try(exfalso;omega))|(refine Cy (fun hc hcP=> ?_) (fun hc hcP=> ?_)<;>try(exfalso;omega))|exact zE))
 ·rw[if_pos k1]
  refine acQ 48 Tryz.func115 rfl rfl fun _ _ _=> ?_
  (repeat'((conv=>whnf);first|refine Aa hR gvQ ?_|refine zF ?_|(refine Cy (fun hc hcP=> ?_) (fun hc hcP=> ?_)<;>try(exfalso;omega))|exact zE))
  all_goals rfl
def Kb (x:UInt8) (c:List UInt8):List UInt8:=x::(Fm c.length++c)
theorem Dc (x:UInt8) (c:List UInt8) (hl:c.length≤900000000):Ab Tryz.prog 94 [cv x.toNat,.d (Af false c)] (fun r=>r=Bb 0 5 (Kb x c)):=by
 have hM:=eD c.length (by omega)
 have hL:=I9 c.length (by omega)
 refine acQ 19 Tryz.func94 rfl rfl fun _ _ _=> ?_
 (repeat'((conv=>whnf);first|refine Aa hM rfl ?_|refine Mp ([x]) ?_|(with_reducible refine NApp.bytes ?_)|exact zE))
 all_goals rfl
def Pb (b:UInt8):Value:= .int .u8 b.toNat
def Qf (k:Nat) (e:TypeId) (l m:List UInt8) (tm tm':List (Nat×AV)):Prop:=
 ∀t u,lk t tm'=some u→(∃x,u= .d (.v x)∧lk t tm=some u)∨(u=Bb k e m∧lk t tm=some (Bb k e l))
theorem Qf.nil {k:Nat} {e:TypeId} {l m:List UInt8} {tm:List (Nat×AV)}:Qf k e l m tm []:=fun t u h=>by cases h
theorem Qf.v {k s:Nat} {e:TypeId} {l m:List UInt8} {tm r:List (Nat×AV)} {x:Value} (h:lk s tm=some (.d (.v x))) (hr:Qf k e l m tm r):Qf k e l m tm ((s,.d (.v x))::r):=fun t u hu=>by
 by_cases e:s=t
 ·subst e;rw[Bs] at hu;cases hu;exact .inl ⟨x,rfl,h⟩
 ·rw[Cf _ _ e] at hu;exact hr t u hu
theorem Qf.own {k s:Nat} {e:TypeId} {l m:List UInt8} {tm r:List (Nat×AV)} (h:lk s tm=some (Bb k e l)) (hr:Qf k e l m tm r):Qf k e l m tm ((s,Bb k e m)::r):=fun t u hu=>by
 by_cases e:s=t
 ·subst e;rw[Bs] at hu;cases hu;exact .inr ⟨rfl,h⟩
 ·rw[Cf _ _ e] at hu;exact hr t u hu
theorem yQ {B:Nat} {fp:Nat→Nat→Prop} {w:World} {l:List UInt8} {g c:Nat} (h1:l.length≤c) (h2:c≤maxLen) (hB:B≤g) (hfp:∀i,i<l.length→fp g i) (hc:∀i b,l[i]?=some b→w.cell? ⟨g,i,none⟩=some (Pb b)):Rd B fp w (.sl true l.length 1 (Ak l)) (.slice (some ⟨g,0,none⟩) l.length c):=by
 refine .sl (l.map Pb) h1 h2 (by rw[B7];omega) (by rw[B7,List.length_map]) (fun h=>by cases h) (fun u hu=> ?_) (fun i d u hd hu=> ?_) (fun i u hu=> ?_)
 ·obtain⟨b,-,rfl⟩:=List.mem_map.1 hu
  rfl
 ·rw[Gi,Option.map_eq_some_iff] at hd
  rw[List.getElem?_map,Option.map_eq_some_iff] at hu
  obtain⟨b,hb,rfl⟩:=hd
  obtain⟨b',hb',rfl⟩:=hu
  rw[hb] at hb';cases hb'
  exact .v _
 ·rw[List.getElem?_map,Option.map_eq_some_iff] at hu
  obtain⟨b,hb,rfl⟩:=hu
  have hlt:=(Aw.1 hb).1
  exact⟨g,0,rfl,by rw[Nat.zero_add];exact hfp i hlt,fun _=>hB,by rw[Nat.zero_add];exact hc i b hb⟩
section
variable {P:Program} {C:Cx} {o:Oper} {σ:AS} {t:Nat}
theorem eG {ρ:Go.Shelf.Ren} (L:SlLaysE.n35 P ρ) {e:TypeId} {x:Operand} {ats:Array TypeId} {k:Nat} {l:List UInt8} {tm':List (Nat×AV)} (hcall:∀vs w,(callFunc (ρ.f 35) vs).run P w= .ok (.enter (ρ.f 35) vs) w) (ho:o.op= .call {callee:= .value (.func (ρ.f 35)),args:=#[x],argTypes:=ats}) (hd:o.dst=some t) (ht:t<C.N)
 (hx:σ.eval x=some (Bb k e l)) (hk:lk k σ.tk=some (l.length,1,e)) (h0:0<l.length) (hl:l.length≤1000000000) (hp:Qf k e l l.reverse σ.tm tm') (htt:lk t tm'=none):
 Bp P C o σ ⟨tm',[],[(k,l.reverse.length,1,e)]⟩:=by
 rw[List.length_reverse]
 rintro a w ⟨bm,gt,fp,hg⟩ K Q hK
 have h1:=hg.eval hx
 generalize hv:a.eval x=v at h1
 cases h1 with
 |own h1=>
  obtain⟨xs,hxs,hown⟩:=(hg.tk k _ _ _ hk).own
  have hby:=h1.bytes
  rcases hown with⟨hvn,hn⟩|⟨g,cap,cur,hvg,hBg,hheap,hnc,hcm,hcs,htk⟩
  ·omega
  have hcell:∀i b,l[i]?=some b→w.cell? ⟨g,i,none⟩=some (Pb b):=fun i b hb=>by
   obtain⟨a',c',e1,-,-,-,e2⟩:=hby
   obtain⟨b',o',e3,-,e4⟩:=e2 i (Pb b) (by rw[F7,hb];rfl)
   rw[hvg] at e1
   cases e1
   cases e3
   rw[Nat.zero_add] at e4
   exact e4
  have hH:Sort.Holds Pb w g 0 l.toArray:=fun j hj=>by
   have hj':j<l.length:=by simpa using hj
   refine⟨?_,frozen_of_row w g _ cur e hheap⟩
   rw[Nat.zero_add,hcell j l[j] (Am hj')]
   rw[getElem!_pos l.toArray j hj]
   simp
  have hR:=AnyE.slices_Reverse L Pb (fun _=>rfl) g 0 cap l w hH (by omega)
  have hrun:(execOp a.eval o).run P w= .ok (.enter (ρ.f 35) #[gt k]) w:=by
   have hf:∀f:FuncId,(Operand.func f:Operand)= .func f:=fun _=>rfl
   simp only[execOp,ho,resolve,Deferred.ofValue,Act.eval,invoke,Sem.run_bind,Sem.run_pure,Result.andThen_ok,hcall]
   simp[hv]
  unfold Oper.wp
  rw[hrun,Oper.upon_enter,hvg]
  refine hR.mono ?_
  rintro e' w' ⟨rfl,m,rfl⟩
  simp only[]
  rw[hd]
  refine hK _ _ ⟨⟨bm.m,C.z0⟩,gt,fun b o'=>(C.fp0 b o'∨C.z0 b o')∨(b=g∧o'<l.length),?_⟩
  have hgs:g<w.heap.size:=(Array.getElem?_eq_some_iff.1 hheap).1
  have hblk:∀b,b≠g→(Sort.putRow Pb (Sort.ahead w m) g 0 l.reverse.toArray).heap[b]?=w.heap[b]?:=fun b hb=>by
   simp only[Sort.putRow,Sort.mapBlock,Array.getElem?_modify,Sort.heap_ahead]
   rw[if_neg (Ne.symm hb)]
  have hself:(Sort.putRow Pb (Sort.ahead w m) g 0 l.reverse.toArray).heap[g]?=some (.cells (Sort.putCells Pb 0 l.reverse.toArray cur) e (0,0)):=by
   simp only[Sort.putRow,Sort.mapBlock,Array.getElem?_modify,Sort.heap_ahead,hheap,if_true]
   rfl
  have hnew:∀i b,l.reverse[i]?=some b→(Sort.putRow Pb (Sort.ahead w m) g 0 l.reverse.toArray).cell? ⟨g,i,none⟩=some (Pb b):=fun i b hb=>by
   have hi:i<l.reverse.length:=(Aw.1 hb).1
   have:=Sort.cell?_putRow Pb (Sort.ahead w m) g 0 l.toArray l.reverse.toArray (Sort.holds_ahead Pb w m g 0 _ hH) (by simp) i (by simpa using hi)
   rw[Nat.zero_add] at this
   rw[this,getElem!_pos l.reverse.toArray i (by simpa using hi)]
   have h2:=(Aw.1 hb).2
   simp at h2⊢
   rw[h2]
  have hlen:l.reverse.length=l.length:=by simp
  have hRd:Rd C.W.heap.size (fun b o'=>(C.fp0 b o'∨C.z0 b o')∨(b=g∧o'<l.length)) (Sort.putRow Pb (Sort.ahead w m) g 0 l.reverse.toArray) (.sl true l.reverse.length 1 (Ak l.reverse)) (gt k):=by
   have:=yQ (l:=l.reverse) (fp:=fun b o'=>(C.fp0 b o'∨C.z0 b o')∨(b=g∧o'<l.length)) (by rw[hlen];exact hnc) hcm hBg (fun i hi=> .inr ⟨rfl,by rw[hlen] at hi;exact hi⟩) hnew
   rw[hvg]
   rw[hlen] at this⊢
   exact this
  refine{sz:=by simp[Act.put,hg.sz],nN:=hg.nN,gd:=hg.gd,za:=fun _ _ x=>x,zb:=fun _ _ x=> .inl x,zf:=fun _ _ x=> .inl (.inr x),ztk:=fun k' x hk' g' hg' o' hz=> ?_,df:=hg.df,tm:=fun s u hu=> ?_,bx:=fun k' cs hk'=>(by cases hk'),bxi:=fun k1 k2 c1 c2 hk1=>(by cases hk1),tk:=fun k' n' sz' e' hk'=> ?_,tki:=fun k1 k2 x1 x2 hk1 hk2 _ _=> ?_,tkb:=fun k1 k2 x1 c1 hk1 hk2=>(by cases hk2),fpb:=fun b o' hf=> ?_,fp0:=fun b o' hf=> .inl (.inl hf),fpB:=hg.fpB,bel:= ?_}
  ·by_cases ek:k=k'
   ·subst ek
    exact hg.ztk k _ hk g' hg' o' (hg.za g' o' hz)
   ·rw[Cf _ _ ek] at hk';cases hk'
  ·have hst:s≠t:=fun h=>by subst h;rw[htt] at hu;cases hu
   rcases hp s u hu with⟨x0,rfl,h2⟩|⟨rfl,h2⟩
   ·obtain⟨v0,h3,h4⟩:=hg.tm s _ h2
    refine⟨v0,by rw[←h3];simp only[Cx.val,Act.put];rw[Array.getElem?_setIfInBounds_ne (Ne.symm hst)],?_⟩
    rw[h4.val];exact .d (.v _)
   ·obtain⟨v0,h3,h4⟩:=hg.tm s _ h2
    refine⟨v0,by rw[←h3];simp only[Cx.val,Act.put];rw[Array.getElem?_setIfInBounds_ne (Ne.symm hst)],?_⟩
    cases h4 with
    |own h4=>exact .own hRd
  ·by_cases ek:k=k'
   ·subst ek
    rw[Bs] at hk'
    cases hk'
    refine⟨⟨(Sort.putCells Pb 0 l.reverse.toArray cur).toList.take (l.length*1),?_,.inr ⟨g,cap,_,hvg,hBg,hself,hnc,hcm,?_,rfl⟩⟩,?_⟩
    ·rw[Al];simp[Sort.putCells,hcs];omega
    ·simp[Sort.putCells,hcs]
    ·intro g' hg' o' ho'
     rw[hvg] at hg'
     cases hg'
     rintro((hf|hf)|⟨-,hf⟩)
     ·have h9:g<C.W.heap.size:=hg.fpB _ _ hf
      omega
     ·exact hg.ztk k _ hk g (by rw[hvg];rfl) _ (hg.za _ _ hf)
     ·omega
   ·rw[Cf _ _ ek] at hk';cases hk'
  ·by_cases e1:k=k1
   ·by_cases e2:k=k2
    ·exact e1.symm.trans e2
    ·rw[Cf _ _ e2] at hk2;cases hk2
   ·rw[Cf _ _ e1] at hk1;cases hk1
  ·rcases hf with(hf|hf)|⟨rfl,hf⟩
   ·exact⟨.inl hf,by have:=hg.fpB _ _ hf;have:=hg.bel.size;rw[Sort.size_putRow,Sort.heap_ahead];omega⟩
   ·have:=hg.fpb _ _ (hg.zf _ _ (hg.za _ _ hf))
    exact⟨this.1,by rw[Sort.size_putRow,Sort.heap_ahead];exact this.2⟩
   ·exact⟨.inr hBg,by rw[Sort.size_putRow,Sort.heap_ahead];exact hgs⟩
  ·refine hg.bel.trans ⟨rfl,rfl,rfl,by rw[Sort.size_putRow,Sort.heap_ahead];exact Nat.le_refl _,fun b hb=>hblk b (by omega)⟩
end
def eH (n:Nat):List UInt8:=UInt8.ofNat n::(if n<256 then [] else eH (n/256))
termination_by n
decreasing_by omega
theorem eI:∀n,(eH n).reverse=Ka n:=by
 intro n
 induction n using Nat.strongRecOn with
 |ind n ih=>
  rw[eH]
  by_cases h:n<256
  ·rw[if_pos h,C4 h];rfl
  ·rw[if_neg h,Iu h,List.reverse_cons,ih (n/256) (by omega)]
   congr 2
   exact UInt8.toNat_inj.1 (by rw[UInt8.toNat_ofNat',UInt8.toNat_ofNat'];omega)
theorem FT {k:Nat} (n:Nat) {m:Int} {b:Nat} (hm:min m.toNat b=k):(n:Int).fdiv (2^(min m.toNat b))=((n/2^k:Nat):Int):=by
 have h2:(0:Int)≤2^k:=Int.le_of_lt (Int.pow_pos (by decide))
 rw[hm,Int.fdiv_eq_ediv_of_nonneg _ h2,Int.natCast_ediv,Int.natCast_pow]
 rfl
def yR (q:Nat):List UInt8:=if q=0 then [] else eH q
theorem Yl (n:Nat):eH n=UInt8.ofNat n::yR (n/256):=by
 rw[eH,yR]
 by_cases h:n<256
 ·rw[if_pos h,if_pos (by omega)]
 ·rw[if_neg h,if_neg (by omega)]
theorem FU (n:Nat) (hn:n≤18446744073709551615):Ab Tryz.prog 114 [.d (.v (.int .u64 (n:Int)))] (fun r=>r=Bb 0 5 (Ka n)):=by
 have hlen:(eH n).length≤8:=by rw[←List.length_reverse,eI];exact(I8 7 n (by omega)).2
 refine acQ 21 Tryz.func114 rfl rfl fun _ _ _=> ?_
 (repeat'((conv=>whnf);first|(with_reducible refine Ky ?_)|(with_reducible refine NInt.shr ?_)|refine Au (by first|decide|omega|(simp only[Ag,List.length_nil];omega)) ?_));(all_goals(conv=>whnf))
 refine Ax (fun p:Nat×List UInt8=>p.1≤18446744073709551615∧0<p.2.length∧p.2++yR p.1=eH n) (fun p=>p.1) (fun p=>⟨[(0,.d (.v (.int .u64 (p.1:Int)))),(2,A4),(3,Bb 6 5 p.2)],[],[(6,(p.2.length,1,5))]⟩) (n/2^8,[UInt8.ofNat n]) ⟨by simp only[];omega,by simp,(by rw[Yl n];rfl)⟩ leQ ?_
 ·rintro⟨q,acc⟩ ⟨hq,ha,he⟩
  simp only[] at hq ha he
  by_cases h0:q=0
  ·subst h0
   rw[yR,if_pos rfl,List.append_nil] at he
   have hal:acc.length≤8:=by rw[he];exact hlen
   (repeat'((conv=>whnf);refine Ae ?_));(all_goals(conv=>whnf))
   refine Aj (eG (l:=acc) (tm':=[(2,A4),(3,Bb 6 5 acc.reverse)]) Tryz.laysRev (Mk Tryz.func145 (by kernel_rfl) rfl) rfl rfl (ltN rfl) rfl rfl ha (by omega) (.v rfl (.own rfl .nil)) rfl) ?_
   (all_goals(conv=>whnf))
   rw[←eI,←he]
   exact zE
  ·rw[yR,if_neg h0,Yl] at he
   have hal:acc.length≤7:=by
    have:=congrArg List.length he
    simp only[Ap,Ag] at this
    omega
   (repeat'((conv=>whnf);first|(with_reducible refine Ky ?_)|refine Is (_) ?_|(with_reducible refine NInt.shr ?_)|refine Au (by first|decide|omega|(simp only[Ag,List.length_nil];omega)) ?_|(refine Ai (fun hc hcP=> ?_) (fun hc hcP=> ?_)<;>try(exfalso;omega))));(all_goals(conv=>whnf))
   refine⟨(q/2^8,acc++[UInt8.ofNat q]),⟨by simp only[];omega,by simp,by rw[List.append_assoc];exact he⟩,by simp only[];omega,?_⟩
   exact leQ
theorem yS (n:Nat) (hn:n≤1000000000):Ab Tryz.prog 86 [A4,iv n] (fun r=>r=Bb 0 5 []):=by
 refine⟨Mk Tryz.func86 (by kernel_rfl) rfl,fun w fp0 z0 vs _ h0 hz hargs=> ?_⟩
 match vs,hargs with
 |[v1,v2],⟨a1,a2,_⟩=>
  rw[a1.val,a2.val]
  by_cases h:n=0
  ·subst h
   refine(Any8.slices_Grow_room Tryz.laysGrow none 0 0 0 w (Nat.le_refl _) (by omega) (by omega) (by omega)).mono ?_
   rintro e w' ⟨rfl,rfl⟩
   exact⟨_,_,rfl,rfl,Below.refl _ _,rfl,fp0,fun _=> .slice none 0 0,z0,fun b o hf=>⟨.inl hf,h0 b o hf⟩,.own (Gq true 1),fun n' sz' e' ht=>by cases ht;exact⟨⟨⟨[],World.ownsRow_nil _ _ _ _⟩,fun g hg=>by cases hg⟩,fun g hg=>by cases hg⟩,fun _ _ x=>x,hz,fun _ _ x=> .inl x⟩
  ·have hT:TyOk Tryz.prog 5 _ _ 1 1:=yE rfl
   obtain⟨i0,e1,e2,e3,e4⟩:=hT.inf
   refine(Any8.slices_Grow_grow Tryz.laysGrow i0 _ e1 e2 (by omega) none 0 0 n [] w (Nat.le_refl _) (by omega) (by rw[e4];omega) (by omega) (by simp) (fun _=>rfl) (fun a ha=>by cases ha)).mono ?_
   rintro e w' ⟨rfl,rfl⟩
   have hcap:=grownCap_le_maxLen w (0+n) 0 5 (by unfold maxLen;omega)
   have hge:0+n≤grownCap w (0+n) 0 5:=grownCap_ge w _ _ _
   have hbel:Below w.heap.size w (w.drew.alloc (.cells (([]:List Value).toArray++Builtin.zeroCells (Value.int .u8 0).cells (0+n-0)++Builtin.zeroCells (Value.int .u8 0).cells (grownCap w (0+n) 0 5-(0+n))) 5)):=(Below.drew (Below.refl _ _)).alloc (Nat.le_refl _) _
   have hobj:=heap_alloc_new w.drew (.cells (([]:List Value).toArray++Builtin.zeroCells (Value.int .u8 0).cells (0+n-0)++Builtin.zeroCells (Value.int .u8 0).cells (grownCap w (0+n) 0 5-(0+n))) 5)
   refine⟨_,_,rfl,rfl,hbel,rfl,fp0,fun _=> .slice (some ⟨w.heap.size,0,none⟩) 0 (grownCap w (0+n) 0 5),z0,fun b o hf=>⟨.inl hf,Nat.lt_of_lt_of_le (h0 b o hf) hbel.size⟩,.own (.sl [] (Nat.zero_le _) hcap rfl rfl (fun h=>by cases h) (fun u hu=>by simp at hu) (fun i d u _ hu=>by simp at hu) (fun i u hu=>by simp at hu)),fun n' sz' e' ht=> ?_,fun _ _ x=>x,hz,fun _ _ x=> .inl x⟩
   cases ht
   refine⟨?_,fun g hg o hzz=>by cases hg;exact absurd (h0 _ _ (hz _ _ hzz)) (Nat.lt_irrefl _)⟩
   refine⟨⟨[],by simp,.inr ⟨w.heap.size,_,_,rfl,Nat.le_refl _,hobj,Nat.zero_le _,hcap,?_,by simp⟩⟩,fun g hg o _ hf=> ?_⟩
   ·have hz:∀k,(Builtin.zeroCells (Value.int .u8 0).cells k).size=k:=fun k=>by simp[Builtin.zeroCells,Value.cells]
    rw[Array.size_append,Array.size_append,hz,hz]
    simp only[List.size_toArray,List.length_nil];omega
   ·cases hg
    have h9:w.heap.size<w.heap.size:=h0 _ _ hf
    omega
def Jy (p:List UInt8):List D:=[Af false p]
theorem Kc {α:Type} {f:α→List D} (hf:∀x,D.uns (f x)=f x) (t:Bool) (sz:Nat) (l:List α):(Fb t sz f l).un=Fb false sz f l:=by
 have:∀l:List α,D.uns (l.flatMap f)=l.flatMap f:=fun l=>by
  induction l with
  |nil=>rfl
  |cons x r ih=>
   rw[List.flatMap_cons,D.uns_eq,List.map_append,←D.uns_eq,←D.uns_eq,hf,ih]
 unfold Fb
 rw[D.un,this]
def Ds (ps:List (List UInt8)):D:=Fb false 1 Jy ps
theorem Av (ps:List (List UInt8)):(Ds ps).un=Ds ps:=Kc (fun x=>by simp only[Jy,D.uns,An]) false 1 ps
theorem Ru {ps:List (List UInt8)} {i:Nat} {p:List UInt8} (h:ps[i]?=some p):(ps.take (i+1)).flatten=(ps.take i).flatten++p:=by
 obtain⟨hlt,he⟩:=Aw.1 h
 rw[List.take_succ_eq_append_getElem hlt,he,List.flatten_append];simp
theorem aI (ps:List (List UInt8)) (i:Nat):(ps.take i).flatten.length≤ps.flatten.length:=by
 conv=>rhs;rw[←List.take_append_drop i ps,List.flatten_append,Ap]
 omega
theorem Pc (ps:List (List UInt8)) (hl:ps.flatten.length≤1000000000) (hn:ps.length≤1000000000):Ab Tryz.prog 53 [.d (Ds ps)] (fun r=>r=Bb 0 5 ps.flatten):=by
 refine acQ 36 Tryz.func53 rfl rfl fun _ _ _=> ?_
 (all_goals(conv=>whnf))
 refine Ax (fun i:Nat=>i≤ps.length) (fun i=>ps.length-i) (fun i=>⟨[(0,.d (Ds ps)),(2,A4),(3,iv (ps.take i).flatten.length),(9,.d (Ds ps)),(10,iv ps.length),(11,iv i)],[],[]⟩) 0 (by omega) leQ ?_
 ·intro i hi
  by_cases hik:i<ps.length
  ·obtain⟨p,hp⟩:∃p,ps[i]?=some p:=⟨_,Am hik⟩
   have hs:=Ru hp
   have hle:=aI ps (i+1)
   have hss:(ps.take (i+1)).flatten.length=(ps.take i).flatten.length+p.length:=by rw[hs,Ap]
   (repeat'((conv=>whnf);first|refine Ae ?_|refine NIdx.tab (fun _=>rfl) hp ?_|(with_reducible refine NInt.i64 ?_)|(refine Ai (fun hc hcP=> ?_) (fun hc hcP=> ?_)<;>try(exfalso;omega))));(all_goals(conv=>whnf))
   refine⟨i+1,by omega,by omega,?_⟩
   rw[hss]
   exact leQ
  ·obtain rfl:i=ps.length:=by omega
   rw[List.take_length]
   (repeat'((conv=>whnf);first|refine Aa (yS ps.flatten.length hl) rfl ?_|(refine Ai (fun hc hcP=> ?_) (fun hc hcP=> ?_)<;>try(exfalso;omega))));(all_goals(conv=>whnf))
   refine Ax (fun i:Nat=>i≤ps.length) (fun i=>ps.length-i) (fun i=>⟨[(0,.d (Ds ps)),(2,A4),(6,Bb 24 5 (ps.take i).flatten),(25,.d (Ds ps)),(26,iv ps.length),(27,iv i)],[],[(24,((ps.take i).flatten.length,1,5))]⟩) 0 (by omega) leQ ?_
   ·intro i hi
    by_cases hik:i<ps.length
    ·obtain⟨p,hp⟩:∃p,ps[i]?=some p:=⟨_,Am hik⟩
     have hs:=Ru hp
     have hle:=aI ps (i+1)
     have hss:(ps.take (i+1)).flatten.length=(ps.take i).flatten.length+p.length:=by rw[hs,Ap]
     (repeat'((conv=>whnf);first|refine NIdx.tab (fun _=>rfl) hp ?_|(with_reducible refine NInt.i64 ?_)|(with_reducible refine NApp.bytes ?_)|(refine Ai (fun hc hcP=> ?_) (fun hc hcP=> ?_)<;>try(exfalso;omega))));(all_goals(conv=>whnf))
     refine⟨i+1,by omega,by omega,?_⟩
     rw[hs]
     exact leQ
    ·obtain rfl:i=ps.length:=by omega
     rw[List.take_length]
     (repeat'((conv=>whnf);refine A0 asP ?_));(all_goals(conv=>whnf))
     all_goals exact zE
     all_goals rfl
theorem Kz (l:List UInt8) (hl:l.length≤1000000000):Ab Tryz.prog 138 [.d (Af false l)] (fun r=>r= .d (Af true l)):=by
 refine acQ 8 Tryz.func138 rfl rfl fun _ _ _=> ?_
 (repeat'((conv=>whnf);first|(refine Uy (jW (sz:=1) rfl rfl (ltN rfl) (C2.ty rfl).u rfl rfl) ?_;rintro _ ⟨b,hnil,rfl⟩)|(with_reducible refine Mo ?_)|refine NBr.mk (fun hc=> ?_) (fun hc=> ?_)));(all_goals(conv=>whnf))
 ·have h0:l=[]:=List.length_eq_zero_iff.1 (hnil hc)
  subst h0
  exact zE
 ·exact zE
def Ah (c n:Nat) (k:Bool) (l:List UInt8):List UInt8:=Kb (UInt8.ofNat (idN c k n)) l
theorem yT {c n:Nat} (hc:c≤3) (hn:n≤30):Qc (c:Int) (n:Int)=false:=by
 unfold Qc
 simp;omega
theorem aJ {c n:Nat} (k:Bool) (hc:c≤3) (hn:n≤30):idN c k n<256:=by
 unfold idN
 cases k<;>simp<;>omega
theorem tD (c n:Nat) (k:Bool) (hc:c≤3) (hn:n≤30):Ab Tryz.prog 84 [iv c,bv k,iv n] (fun r=>r= .tup [cv (UInt8.ofNat (idN c k n)).toNat,iv 0]):=by
 have:=yF k (yT hc hn)
 have h2:=aJ k hc hn
 rw[show(UInt8.ofNat (idN c k n)).toNat=idN c k n by rw[UInt8.toNat_ofNat'];omega]
 exact this
theorem FV (n:Nat) (hn:n≤2147483647):Ab Tryz.prog 85 [iv n] (fun r=>r= .tup [Bb 0 5 (Fm n),iv 0]):=by
 have hM:=FU n (by omega)
 have hL:=I8 3 n (by omega)
 by_cases h:n<128
 ·rw[Fm,if_pos h]
  refine acQ 24 Tryz.func85 rfl rfl fun _ _ _=> ?_
  (repeat'((conv=>whnf);first|refine Ae ?_|refine Aa hM rfl ?_|(with_reducible refine NInt.u64 ?_)|(refine Ai (fun hc hcP=> ?_) (fun hc hcP=> ?_)<;>try(exfalso;omega))|exact zE))
  all_goals rfl
 ·rw[Fm,if_neg h]
  refine acQ 24 Tryz.func85 rfl rfl fun _ _ _=> ?_
  (repeat'((conv=>whnf);first|refine Ae ?_|refine Aa hM rfl ?_|(with_reducible refine Bi (128+(Ka n).length) ?_)|refine Mp ([UInt8.ofNat (128+(Ka n).length)]) ?_|(with_reducible refine NInt.i64 ?_)|(with_reducible refine NInt.u64 ?_)|(refine Ai (fun hc hcP=> ?_) (fun hc hcP=> ?_)<;>try(exfalso;omega))|exact zE))
theorem Nv {p:Prop} (h:p:=by first|rfl|(simp only[AV.gives,AV.ren,AV.give,D.un,D.uns,An,Ao,List.nil_append,List.append_nil,List.cons_append,Av];first|done|rfl)):p:=h
theorem FW (c n:Nat) (k:Bool) (l:List UInt8) (hc:c≤3) (hn:n≤30) (hl:l.length≤900000000):Ab Tryz.prog 52 [iv c,bv k,iv n,.d (Af false l)] (fun r=>r= .tup [Bb 0 5 (Ah c n k l),iv 0]):=by
 have hI:=tD c n k hc hn
 have hM:=FV l.length (by omega)
 have hL:=I9 l.length (by omega)
 have hF:[[UInt8.ofNat (idN c k n)],Fm l.length,l].flatten=Ah c n k l:=by simp[Ah,Kb]
 have hC:=Pc [[UInt8.ofNat (idN c k n)],Fm l.length,l] (by simp;omega) (by simp)
 rw[hF] at hC
 refine acQ 38 Tryz.func52 rfl rfl fun _ _ _=> ?_
 (repeat'((conv=>whnf);first|refine Ae ?_|refine Aa hI rfl ?_|refine Aa hM rfl ?_|refine Aa hC Nv ?_|exact zE))
 all_goals rfl
theorem oB (e:El):D.uns (elC e)=elC e:=rfl
theorem Qg (c n:Nat) (k:Bool) (ps:List (List UInt8)) (hc:c≤3) (hn:n≤30) (hl:ps.flatten.length≤900000000) (hp:ps.length≤1000000000):Ab Tryz.prog 26 [iv c,bv k,iv n,.d (Ds ps)] (fun r=>r= .tup [Bb 0 5 (Ah c n k ps.flatten),iv 0]):=by
 have hC:=Pc ps (by omega) hp
 have hE:=FW c n k ps.flatten hc hn hl
 refine acQ 18 Tryz.func26 rfl rfl fun _ _ _=> ?_
 (repeat'((conv=>whnf);first|refine Aa hC Nv ?_|refine Aa hE Nv ?_|exact zE))
 all_goals rfl
theorem Nw (ps:List (List UInt8)) (hl:ps.flatten.length≤900000000) (hp:ps.length≤1000000000):Ab Tryz.prog 51 [.d (Ds ps)] (fun r=>r= .tup [Bb 0 5 (Ah 0 16 true ps.flatten),iv 0]):=by
 have hW:=Qg 0 16 true ps (by omega) (by omega) hl hp
 refine acQ 8 Tryz.func51 rfl rfl fun _ _ _=> ?_
 (repeat'((conv=>whnf);refine Aa hW Nv ?_));(all_goals(conv=>whnf))
 all_goals exact zE
 all_goals rfl
structure LR where
 l:List El
 code:Nat
 off:Nat
def Ep (b:List UInt8) (en:Nat):Nat→Nat→LR
 |0,_=>⟨[],0,0⟩
 |f+1,at'=>if at'<en then
   if(nxS b at' en).code≠0 then⟨[],(nxS b at' en).code,(nxS b at' en).off⟩
   else if(Ep b en f (nxS b at' en).x.stop).code≠0 then Ep b en f (nxS b at' en).x.stop
   else⟨(nxS b at' en).x::(Ep b en f (nxS b at' en).x.stop).l,0,0⟩
  else⟨[],0,0⟩
def Cv (b:List UInt8) (frm en:Nat):LR:=Ep b en (en-frm) frm
theorem lA (b:List UInt8) (en:Nat) (hto:en≤b.length):∀(f g at':Nat),en-at'≤f→f≤g→Ep b en g at'=Ep b en f at':=by
 intro f
 induction f with
 |zero=>
  intro g at' h1 h2
  cases g with
  |zero=>rfl
  |succ g=>
   conv=>lhs;rw[Ep,if_neg (by omega)]
   rfl
 |succ f ih=>
  intro g at' h1 h2
  obtain⟨g,rfl⟩:∃j,g=j+1:=⟨g-1,by omega⟩
  rw[Ep,Ep]
  by_cases h3:at'<en
  ·rw[if_pos h3,if_pos h3]
   by_cases h4:(nxS b at' en).code≠0
   ·rw[if_pos h4,if_pos h4]
   ·have h5:=(Gt b at' en (by omega) hto).1 (by omega)
    rw[if_neg h4,if_neg h4,ih g _ (by omega) (by omega)]
  ·rw[if_neg h3,if_neg h3]
theorem yU (b:List UInt8) (en:Nat):∀(f at':Nat),(Ep b en f at').code=0→Ep b en f at'=⟨(Ep b en f at').l,0,0⟩:=by
 intro f
 induction f with
 |zero=>intro at' _;rfl
 |succ f ih=>
  intro at' h
  rw[Ep] at h⊢
  by_cases h3:at'<en
  ·rw[if_pos h3] at h⊢
   by_cases h4:(nxS b at' en).code≠0
   ·rw[if_pos h4] at h
    exact absurd h h4
   ·rw[if_neg h4] at h⊢
    by_cases h5:(Ep b en f (nxS b at' en).x.stop).code≠0
    ·rw[if_pos h5] at h
     exact absurd h h5
    ·rw[if_neg h5]
  ·rw[if_neg h3]
theorem Rv {b:List UInt8} {at' en:Nat} (h:¬at'<en):Cv b at' en=⟨[],0,0⟩:=by
 rw[Cv,show en-at'=0 by omega];rfl
theorem Ym {b:List UInt8} {at' en:Nat} (h:at'<en) (h1:(nxS b at' en).code≠0):Cv b at' en=⟨[],(nxS b at' en).code,(nxS b at' en).off⟩:=by
 obtain⟨f,hf⟩:∃f,en-at'=f+1:=⟨en-at'-1,by omega⟩
 rw[Cv,hf,Ep,if_pos h,if_pos h1]
theorem Pd {b:List UInt8} {at' en:Nat} (hto:en≤b.length) (h:at'<en) (h1:(nxS b at' en).code=0):Cv b at' en=if(Cv b (nxS b at' en).x.stop en).code≠0 then Cv b (nxS b at' en).x.stop en else⟨(nxS b at' en).x::(Cv b (nxS b at' en).x.stop en).l,0,0⟩:=by
 obtain⟨f,hf⟩:∃f,en-at'=f+1:=⟨en-at'-1,by omega⟩
 have h5:=(Gt b at' en (by omega) hto).1 h1
 have e:Ep b en f (nxS b at' en).x.stop=Cv b (nxS b at' en).x.stop en:=lA b en hto _ _ _ (Nat.le_refl _) (by omega)
 rw[show Cv b at' en=Ep b en (f+1) at' by rw[Cv,hf],Ep,if_pos h,if_neg (by omega),e]
def eJ (l:List El):D:=Fb true 6 elC l
theorem Ee (l:List El):(eJ l).un=Fb false 6 elC l:=Kc oB true 6 l
theorem Ef (l:List El):(Fb false 6 elC l).un=Fb false 6 elC l:=Kc oB false 6 l
def lrA (r:LR):AV:=if r.code≠0 then .tup [A4,erA r.code r.off] else .tup [.d (eJ r.l),erA 0 0]
theorem eK (b:List UInt8) (frm en:Nat) (hb:b.length≤1000000000) (h1:frm≤en) (h2:en≤b.length):Ab Tryz.prog 66 [.d (Af false b),iv frm,iv en] (fun r=>r=lrA (Cv b frm en)):=by
 refine acQ 49 Tryz.func66 rfl rfl fun _ _ _=> ?_
 (repeat'((conv=>whnf);first|refine Ae ?_|(refine Ai (fun hc hcP=> ?_) (fun hc hcP=> ?_)<;>try(exfalso;omega))));(all_goals(conv=>whnf))
 refine A5 [.s 8 6 89] (fun p:Nat×List El=>p.1≤en∧p.2.length≤p.1∧(Cv b frm en=if(Cv b p.1 en).code≠0 then Cv b p.1 en else⟨p.2++(Cv b p.1 en).l,0,0⟩)) (fun p=>en-p.1) (fun p=>⟨[(0,.d (Af false b)),(2,iv en),(6,A4),(7,.ptr 7 0),(8,Bx 8 6 89 elC p.2),(9,iv p.1)],[(7,[iv 0,iv 0])],[(8,(p.2.length,6,89))]⟩) (frm,[]) ⟨h1,by simp,?_⟩ ?_ ?_
 ·show Cv b frm en=if(Cv b frm en).code≠0 then Cv b frm en else⟨[]++(Cv b frm en).l,0,0⟩
  by_cases h:(Cv b frm en).code≠0
  ·rw[if_pos h]
  ·rw[if_neg h]
   exact yU b en _ _ (Decidable.not_not.1 h)
 ·exact leQ
 ·rintro⟨at',acc⟩ ⟨hat,hacc,he⟩
  simp only[] at hat hacc he
  by_cases h3:at'<en
  ·have hN:=eA b at' en hb hat h2
   have hF:=Gt b at' en hat h2
   by_cases h4:(nxS b at' en).code=0
   ·obtain⟨f1,f2,f3,f4,f5⟩:=hF.1 h4
    rw[Pd h2 h3 h4] at he
    (repeat'((conv=>whnf);first|refine Aa hN gvQ ?_|refine A2 elC (nxS b at' en).x ?_|(refine Ai (fun hc hcP=> ?_) (fun hc hcP=> ?_)<;>try(exfalso;omega))|(refine Cy (fun hc hcP=> ?_) (fun hc hcP=> ?_)<;>try(exfalso;omega))));(all_goals(conv=>whnf))
    refine⟨((nxS b at' en).x.stop,acc++[(nxS b at' en).x]),⟨by simp only[];omega,by simp;omega,?_⟩,by simp only[];omega,?_⟩
    ·rw[he]
     by_cases h6:(Cv b (nxS b at' en).x.stop en).code≠0
     ·rw[if_pos h6,if_pos h6,if_pos h6]
     ·rw[if_neg h6,if_neg h6,if_neg (by simp)]
      simp
    ·exact leQ
   ·rw[Ym h3 h4,if_pos h4] at he
    (repeat'((conv=>whnf);first|refine Aa hN gvQ ?_|refine zF ?_|(refine Ai (fun hc hcP=> ?_) (fun hc hcP=> ?_)<;>try(exfalso;omega))|(refine Cy (fun hc hcP=> ?_) (fun hc hcP=> ?_)<;>try(exfalso;omega))));(all_goals(conv=>whnf))
    all_goals(rw[he,lrA,if_pos h4];exact zE)
  ·rw[Rv h3,if_neg (by simp)] at he
   simp only[List.append_nil] at he
   (repeat'((conv=>whnf);(refine Ai (fun hc hcP=> ?_) (fun hc hcP=> ?_)<;>try(exfalso;omega))));(all_goals(conv=>whnf))
   all_goals(rw[he,lrA,if_neg (by simp)];exact zE)
theorem yV {b:List UInt8} {en:Nat} (hto:en≤b.length):∀(f at':Nat) (x:El),x∈(Ep b en f at').l→at'≤x.at'∧x.at'+2≤x.body∧x.body≤x.stop∧x.stop≤en∧x.c≤3∧x.n≤30:=by
 intro f
 induction f with
 |zero=>intro at' x h;simp[Ep] at h
 |succ f ih=>
  intro at' x h
  rw[Ep] at h
  by_cases h3:at'<en
  ·rw[if_pos h3] at h
   have hF:=Gt b at' en (by omega) hto
   by_cases h4:(nxS b at' en).code≠0
   ·rw[if_pos h4] at h;simp at h
   ·rw[if_neg h4] at h
    obtain⟨f1,f2,f3,f4,f5⟩:=hF.1 (Decidable.not_not.1 h4)
    by_cases h5:(Ep b en f (nxS b at' en).x.stop).code≠0
    ·rw[if_pos h5] at h
     have:=ih _ x h
     omega
    ·rw[if_neg h5] at h
     simp only[List.mem_cons] at h
     rcases h with rfl|h
     ·omega
     ·have:=ih _ x h
      omega
  ·rw[if_neg h3] at h;simp at h
theorem eL {b:List UInt8} {frm en:Nat} (hto:en≤b.length) {x:El} (h:x∈(Cv b frm en).l):frm≤x.at'∧x.at'+2≤x.body∧x.body≤x.stop∧x.stop≤en∧x.c≤3∧x.n≤30:=yV hto _ _ x h
theorem Yn {b:List UInt8} {en:Nat} (hto:en≤b.length):∀(f at':Nat),(Ep b en f at').l.length≤en-at':=by
 intro f
 induction f with
 |zero=>intro at';simp[Ep]
 |succ f ih=>
  intro at'
  rw[Ep]
  by_cases h3:at'<en
  ·rw[if_pos h3]
   have hF:=Gt b at' en (by omega) hto
   by_cases h4:(nxS b at' en).code≠0
   ·rw[if_pos h4];simp
   ·rw[if_neg h4]
    obtain⟨f1,f2,f3,f4,f5⟩:=hF.1 (Decidable.not_not.1 h4)
    have:=ih (nxS b at' en).x.stop
    by_cases h5:(Ep b en f (nxS b at' en).x.stop).code≠0
    ·rw[if_pos h5];omega
    ·rw[if_neg h5]
     simp only[Ag]
     omega
  ·rw[if_neg h3];simp
theorem D9 (b:List UInt8):((Bj b).code=0→(Bj b).x.at'=0∧2≤(Bj b).x.body∧(Bj b).x.body≤(Bj b).x.stop∧(Bj b).x.stop=b.length∧(Bj b).off=0)∧(Bj b).code≤4∧(Bj b).off≤b.length∧(Bj b).x.c≤3∧(Bj b).x.n≤30∧(Bj b).x.stop≤b.length∧(Bj b).x.body≤(Bj b).x.stop:=by
 have hF:=Gt b 0 b.length (by omega) (by omega)
 unfold Bj
 by_cases h:(nxS b 0 b.length).code=0∧(nxS b 0 b.length).x.stop<b.length
 ·rw[if_pos h]
  simp only[ElR.bad,El.zero]
  omega
 ·rw[if_neg h]
  omega
def A6 (b:List UInt8) (c n:Nat):LR:=
 if(Bj b).code≠0 then⟨[],(Bj b).code,(Bj b).off⟩ else if(Bj b).x.isB c n true=false then⟨[],3,0⟩ else Cv b (Bj b).x.body (Bj b).x.stop
theorem Iv (b:List UInt8) (c n:Nat) (hb:b.length≤1000000000):Ab Tryz.prog 33 [.d (Af false b),iv c,iv n] (fun r=>r=lrA (A6 b c n)):=by
 have hO:=Lp b hb
 have hF:=D9 b
 by_cases h1:(Bj b).code=0
 ·obtain⟨f1,f2,f3,f4,f5⟩:=hF.1 h1
  have hI:=Rs (Bj b).x c n true
  by_cases h2:(Bj b).x.isB c n true=false
  ·have e:A6 b c n=⟨[],3,0⟩:=by rw[A6,if_neg (by omega),if_pos h2]
   rw[h2] at hI
   rw[e]
   refine acQ 33 Tryz.func33 rfl rfl fun _ _ _=> ?_
   (repeat'((conv=>whnf);first|refine Ac ?_|refine Aa hO gvQ ?_|refine Aa hI rfl ?_|(refine Cy (fun hc hcP=> ?_) (fun hc hcP=> ?_)<;>try(exfalso;omega))|exact zE))
   all_goals rfl
  ·have e:A6 b c n=Cv b (Bj b).x.body (Bj b).x.stop:=by rw[A6,if_neg (by omega),if_neg h2]
   have hL:=eK b (Bj b).x.body (Bj b).x.stop hb f3 (by omega)
   rw[Bool.not_eq_false] at h2
   rw[h2] at hI
   rw[e]
   by_cases h3:(Cv b (Bj b).x.body (Bj b).x.stop).code≠0
   ·rw[lrA,if_pos h3] at hL⊢
    refine acQ 33 Tryz.func33 rfl rfl fun _ _ _=> ?_
    (repeat'((conv=>whnf);first|refine Ae ?_|refine Aa hO gvQ ?_|refine Aa hI rfl ?_|refine Aa hL gvQ ?_|(refine Cy (fun hc hcP=> ?_) (fun hc hcP=> ?_)<;>try(exfalso;omega))|exact zE))
    all_goals rfl
   ·rw[lrA,if_neg h3] at hL⊢
    refine acQ 33 Tryz.func33 rfl rfl fun _ _ _=> ?_
    (repeat'((conv=>whnf);first|refine Ae ?_|refine Aa hO gvQ ?_|refine Aa hI rfl ?_|refine Aa hL gvQ ?_|(refine Cy (fun hc hcP=> ?_) (fun hc hcP=> ?_)<;>try(exfalso;omega))|exact zE))
    all_goals rfl
 ·have e:A6 b c n=⟨[],(Bj b).code,(Bj b).off⟩:=by rw[A6,if_pos h1]
  rw[e,lrA,if_pos h1]
  refine acQ 33 Tryz.func33 rfl rfl fun _ _ _=> ?_
  (repeat'((conv=>whnf);first|refine Aa hO gvQ ?_|refine zF ?_|(refine Cy (fun hc hcP=> ?_) (fun hc hcP=> ?_)<;>try(exfalso;omega))|exact zE))
  all_goals rfl
def G6:List (List UInt8)→Bool
 |[]=>true
 |[_]=>true
 |a::b::r=>decide (Fi a b<0)&&G6 (b::r)
theorem Yo {ps:List (List UInt8)} (h:ps.length≤1):G6 ps=true:=by
 match ps,h with
 |[],_=>rfl
 |[_],_=>rfl
theorem eM {ps:List (List UInt8)} {i:Nat} {a b:List UInt8} (h1:ps[i]?=some a) (h2:ps[i+1]?=some b):G6 (ps.drop i)=(decide (Fi a b<0)&&G6 (ps.drop (i+1))):=by
 obtain⟨l1,e1⟩:=Aw.1 h1
 obtain⟨l2,e2⟩:=Aw.1 h2
 rw[List.drop_eq_getElem_cons l1,List.drop_eq_getElem_cons l2,e1,e2,G6]
theorem yW {p:Prop} (h:p:=by first|rfl|(simp only[AV.gives,AV.ren,AV.give,D.un,D.uns,An,Ao,List.nil_append,List.append_nil,List.cons_append,Av];first|done|rfl)):p:=h
theorem Sv (ps:List (List UInt8)) (hn:ps.length≤1000000000) (hl:∀p∈ps,p.length≤1000000000):Ab Tryz.prog 100 [.d (Ds ps)] (fun r=>r=bv (G6 ps)):=by
 refine acQ 25 Tryz.func100 rfl rfl fun _ _ _=> ?_
 (all_goals(conv=>whnf))
 refine Ax (fun i:Nat=>i≤ps.length∧G6 ps=G6 (ps.drop (i-1))) (fun i=>ps.length-i) (fun i=>⟨[(0,.d (Ds ps)),(2,bv false),(4,.d (Ds ps)),(5,iv ps.length),(6,iv i)],[],[]⟩) 0 ⟨by omega,rfl⟩ leQ ?_
 ·rintro i ⟨hi,he⟩
  by_cases hik:i<ps.length
  ·obtain⟨b,hb⟩:∃p,ps[i]?=some p:=⟨_,Am hik⟩
   by_cases h0:i=0
   ·subst h0
    have hg:decide (((0:Nat):Int)>0)=false:=rfl
    (repeat'((conv=>whnf);first|refine Ae ?_|(with_reducible refine NInt.i64 ?_)|refine zF ?_|(refine Ai (fun hc hcP=> ?_) (fun hc hcP=> ?_)<;>try(exfalso;omega))));(all_goals(conv=>whnf))
    refine⟨0+1,⟨by omega,he⟩,by omega,?_⟩
    exact leQ
   ·obtain⟨j,rfl⟩:∃j,i=j+1:=⟨i-1,by omega⟩
    obtain⟨a,ha⟩:∃p,ps[j]?=some p:=⟨_,Am (by omega)⟩
    have hg:decide (((j+1:Nat):Int)>0)=true:=decide_eq_true (by omega)
    have hC:=FS a b (hl a (A8 ha)) (hl b (A8 hb))
    rw[Nat.add_sub_cancel,eM ha hb] at he
    by_cases hcm:Fi a b<0
    ·rw[decide_eq_true hcm,Bool.true_and] at he
     have hg2:decide (Fi a b≥0)=false:=decide_eq_false (by omega)
     (repeat'((conv=>whnf);first|refine Ay asP ?_|refine A0 asP ?_|refine Aa hC yW ?_|refine NIdx.tab (fun _=>rfl) ha ?_|refine NIdx.tab (fun _=>rfl) hb ?_|(with_reducible refine NInt.i64 ?_)|refine zF ?_|(refine Ai (fun hc hcP=> ?_) (fun hc hcP=> ?_)<;>try(exfalso;omega))));(all_goals(conv=>whnf))
     refine⟨j+1+1,⟨by omega,he⟩,by omega,?_⟩
     exact leQ
    ·rw[decide_eq_false hcm,Bool.false_and] at he
     have hg2:decide (Fi a b≥0)=true:=decide_eq_true (by omega)
     (repeat'((conv=>whnf);first|refine Ay asP ?_|refine Aa hC yW ?_|refine NIdx.tab (fun _=>rfl) ha ?_|refine NIdx.tab (fun _=>rfl) hb ?_|(with_reducible refine NInt.i64 ?_)|refine zF ?_|(refine Ai (fun hc hcP=> ?_) (fun hc hcP=> ?_)<;>try(exfalso;omega))));(all_goals(conv=>whnf))
     all_goals(rw[he];exact zE)
  ·obtain rfl:i=ps.length:=by omega
   rw[Yo (ps:=ps.drop (ps.length-1)) (by simp;omega)] at he
   (repeat'((conv=>whnf);(refine Ai (fun hc hcP=> ?_) (fun hc hcP=> ?_)<;>try(exfalso;omega))));(all_goals(conv=>whnf))
   all_goals(rw[he];exact zE)
theorem Nx {p:Prop} (h:p:=by first|rfl|(simp only[AV.gives,AV.ren,AV.give,D.un,D.uns,An,Ao,List.nil_append,List.append_nil,List.cons_append,Av,Ee,Ef];first|done|rfl)):p:=h
theorem aK (ps:List (List UInt8)) (hn:ps.length≤1000000000) (hl:∀p∈ps,p.length≤1000000000):Ab Tryz.prog 166 [.d (Ds ps)] (fun r=>r=bv (G6 ps)):=by
 have hcv:∀a b:List UInt8,Fi a b= -1∨Fi a b=0∨Fi a b=1:=by
  intro a
  induction a with
  |nil=>intro b;cases b<;>simp[Fi]
  |cons x r ih=>
   intro b
   cases b with
   |nil=>simp[Fi]
   |cons y s=>
    rw[Fi]
    by_cases h1:x.toNat<y.toNat
    ·rw[if_pos h1];simp
    ·rw[if_neg h1]
     by_cases h2:y.toNat<x.toNat
     ·rw[if_pos h2];simp
     ·rw[if_neg h2];exact ih s
 refine acQ 21 Tryz.func166 rfl rfl fun _ _ _=> ?_
 (all_goals(conv=>whnf))
 refine Ax (fun i:Nat=>i≤ps.length+1∧G6 ps=G6 (ps.drop i)) (fun i=>ps.length+1-i) (fun i=>⟨[(0,.d (Ds ps)),(2,bv false),(3,iv (i+1:Nat))],[],[]⟩) 0 ⟨by omega,rfl⟩ leQ ?_
 ·rintro i ⟨hi,he⟩
  by_cases hik:i+1<ps.length
  ·obtain⟨a,ha⟩:∃p,ps[i]?=some p:=⟨_,Am (by omega)⟩
   obtain⟨b,hb⟩:∃p,ps[i+1]?=some p:=⟨_,Am hik⟩
   have hC:=eC a b (hl a (A8 ha)) (hl b (A8 hb))
   rw[eM ha hb] at he
   have hv:=hcv a b
   by_cases hcm:Fi a b<0
   ·rw[decide_eq_true hcm,Bool.true_and] at he
    (repeat'((conv=>whnf);first|refine Aa hC Nx ?_|refine NIdx.tab (fun _=>rfl) ha ?_|refine NIdx.tab (fun _=>rfl) hb ?_|(with_reducible refine NInt.i64 ?_)|refine zF ?_|(refine Ai (fun hc hcP=> ?_) (fun hc hcP=> ?_)<;>try(exfalso;omega))|(refine Cy (fun hc hcP=> ?_) (fun hc hcP=> ?_)<;>try(exfalso;omega))));(all_goals(conv=>whnf))
    refine⟨i+1,⟨by omega,he⟩,by omega,?_⟩
    exact leQ
   ·rw[decide_eq_false hcm,Bool.false_and] at he
    (repeat'((conv=>whnf);first|refine Aa hC Nx ?_|refine NIdx.tab (fun _=>rfl) ha ?_|refine NIdx.tab (fun _=>rfl) hb ?_|(with_reducible refine NInt.i64 ?_)|refine zF ?_|(refine Ai (fun hc hcP=> ?_) (fun hc hcP=> ?_)<;>try(exfalso;omega))|(refine Cy (fun hc hcP=> ?_) (fun hc hcP=> ?_)<;>try(exfalso;omega))));(all_goals(conv=>whnf))
    all_goals(rw[he];exact zE)
  ·rw[Yo (ps:=ps.drop i) (by simp;omega)] at he
   (repeat'((conv=>whnf);(refine Ai (fun hc hcP=> ?_) (fun hc hcP=> ?_)<;>try(exfalso;omega))));(all_goals(conv=>whnf))
   all_goals(rw[he];exact zE)
theorem F1 (x:UInt8) (ps:List (List UInt8)) (hn:ps.length≤1000000000) (hl:ps.flatten.length≤900000000):Ab Tryz.prog 62 [cv x.toNat,.d (Ds ps)] (fun r=>r=Bb 0 5 (Kb x ps.flatten)):=by
 have hP:=Dc x ps.flatten hl
 refine acQ 22 Tryz.func62 rfl rfl fun _ _ _=> ?_
 (all_goals(conv=>whnf))
 refine A5 [.s 5 1 5] (fun i:Nat=>i≤ps.length) (fun i=>ps.length-i) (fun i=>⟨[(0,cv x.toNat),(1,.d (Ds ps)),(4,A4),(5,Bb 5 5 (ps.take i).flatten),(6,iv i)],[],[(5,((ps.take i).flatten.length,1,5))]⟩) 0 (by omega) leQ ?_
 ·intro i hi
  by_cases hik:i<ps.length
  ·obtain⟨p,hp⟩:∃p,ps[i]?=some p:=⟨_,Am hik⟩
   have hs:=Ru hp
   have hle:=aI ps (i+1)
   have hss:(ps.take (i+1)).flatten.length=(ps.take i).flatten.length+p.length:=by rw[hs,Ap]
   (repeat'((conv=>whnf);first|refine NIdx.tab (fun _=>rfl) hp ?_|(with_reducible refine NInt.i64 ?_)|(with_reducible refine NApp.bytes ?_)|(refine Ai (fun hc hcP=> ?_) (fun hc hcP=> ?_)<;>try(exfalso;omega))));(all_goals(conv=>whnf))
   refine⟨i+1,by omega,by omega,?_⟩
   rw[hs]
   exact leQ
  ·obtain rfl:i=ps.length:=by omega
   rw[List.take_length]
   (repeat'((conv=>whnf);first|refine Aa hP Nx ?_|(refine Ai (fun hc hcP=> ?_) (fun hc hcP=> ?_)<;>try(exfalso;omega))|exact zE))
   all_goals rfl
def By (b:List UInt8) (n:Nat):Option (List UInt8):=
 if(Bj b).code≠0∨(Bj b).x.isB 2 n true=false then none else some ((b.drop (Bj b).x.body).take ((Bj b).x.stop-(Bj b).x.body))
def yX:Option (List UInt8)→AV
 |none=> .tup [A4,bv false]
 |some l=> .tup [.d (Af false l),bv true]
theorem tE (b:List UInt8) (n:Nat) (hb:b.length≤1000000000):Ab Tryz.prog 195 [.d (Af false b),iv n] (fun r=>r=yX (By b n)):=by
 have hO:=Lp b hb
 have hF:=D9 b
 have hI:=Rs (Bj b).x 2 n true
 by_cases h1:(Bj b).code=0
 ·obtain⟨f1,f2,f3,f4,f5⟩:=hF.1 h1
  by_cases h2:(Bj b).x.isB 2 n true=false
  ·rw[By,if_pos (Or.inr h2)]
   rw[h2] at hI
   refine acQ 28 Tryz.func195 rfl rfl fun _ _ _=> ?_
   (repeat'((conv=>whnf);first|refine Ac ?_|refine Ae ?_|refine Aa hO Nx ?_|refine Aa hI rfl ?_|(refine Cy (fun hc hcP=> ?_) (fun hc hcP=> ?_)<;>try(exfalso;omega))|exact zE))
   all_goals rfl
  ·rw[By,if_neg (by rintro(h|h);exact h h1;exact h2 h)]
   rw[Bool.not_eq_false] at h2
   rw[h2] at hI
   refine acQ 28 Tryz.func195 rfl rfl fun _ _ _=> ?_
   (repeat'((conv=>whnf);first|refine Ae ?_|refine Aa hO Nx ?_|refine Aa hI rfl ?_|refine NSl.slice ((Bj b).x.body) ((Bj b).x.stop) ?_|(refine Cy (fun hc hcP=> ?_) (fun hc hcP=> ?_)<;>try(exfalso;omega))|exact zE))
   all_goals rfl
 ·rw[By,if_pos (Or.inl h1)]
  refine acQ 28 Tryz.func195 rfl rfl fun _ _ _=> ?_
  (repeat'((conv=>whnf);first|refine Ac ?_|refine Aa hO Nx ?_|(refine Cy (fun hc hcP=> ?_) (fun hc hcP=> ?_)<;>try(exfalso;omega))|exact zE))
  all_goals rfl
def elO (c:List UInt8) (x:El):List UInt8:=(c.drop x.at').take (x.stop-x.at')
def Dv (c:List UInt8):List (List UInt8):=if(Cv c 0 c.length).code≠0 then [] else(Cv c 0 c.length).l.map (elO c)
def yY (ps:List (List UInt8)):D:=Fb true 1 Jy ps
theorem A9 (ps:List (List UInt8)):(yY ps).un=Ds ps:=Kc (fun x=>by simp only[Jy,D.uns,An]) true 1 ps
theorem eO {p:Prop} (h:p:=by first|rfl|(simp only[AV.gives,AV.ren,AV.give,D.un,D.uns,An,Ao,List.nil_append,List.append_nil,List.cons_append,Av,Ee,Ef];first|done|rfl)):p:=h
theorem Yp (c:List UInt8) (hb:c.length≤1000000000):Ab Tryz.prog 194 [.d (Af false c)] (fun r=>r= .d (yY (Dv c))):=by
 have hL:=eK c 0 c.length hb (by omega) (by omega)
 by_cases h1:(Cv c 0 c.length).code≠0
 ·rw[Dv,if_pos h1]
  rw[lrA,if_pos h1] at hL
  refine acQ 35 Tryz.func194 rfl rfl fun _ _ _=> ?_
  (repeat'((conv=>whnf);first|refine Aa hL eO ?_|(refine Cy (fun hc hcP=> ?_) (fun hc hcP=> ?_)<;>try(exfalso;omega))));(all_goals(conv=>whnf))
  exact zE
 ·rw[Dv,if_neg h1]
  rw[lrA,if_neg h1] at hL
  have hin:=fun x=>eL (b:=c) (frm:=0) (en:=c.length) (x:=x) (Nat.le_refl _)
  have hll:(Cv c 0 c.length).l.length≤c.length:=by have:=Yn (b:=c) (en:=c.length) (Nat.le_refl _) (c.length-0) 0;exact this
  generalize (Cv c 0 c.length).l=l at hL hin hll⊢
  refine acQ 35 Tryz.func194 rfl rfl fun _ _ _=> ?_
  (repeat'((conv=>whnf);first|refine Ae ?_|refine Aa hL eO ?_));(all_goals(conv=>whnf))
  refine A5 [.s 5 1 22] (fun i:Nat=>i≤l.length) (fun i=>l.length-i) (fun i=>⟨[(0,.d (Af false c)),(2,A4),(5,Bx 5 1 22 Jy ((l.take i).map (elO c))),(18,.d (eJ l)),(19,iv l.length),(20,iv i)],[],[(5,(((l.take i).map (elO c)).length,1,22))]⟩) 0 (by omega) leQ ?_
  ·intro i hi
   by_cases hik:i<l.length
   ·obtain⟨x,hx⟩:∃p,l[i]?=some p:=⟨_,Am hik⟩
    obtain⟨k1,k2,k3,k4,k5,k6⟩:=hin x (A8 hx)
    have hs:(l.take (i+1)).map (elO c)=(l.take i).map (elO c)++[elO c x]:=by
     have hg:=Am hik
     rw[hx] at hg
     rw[List.take_succ_eq_append_getElem hik,List.map_append]
     cases hg;rfl
    have hml:((l.take i).map (elO c)).length≤1000000000-1:=by rw[List.length_map,Al];omega
    (repeat'((conv=>whnf);first|refine NIdx.tab (fun _=>rfl) hx ?_|refine NSl.slice (x.at') (x.stop) ?_|refine A2 Jy (elO c x) ?_|(with_reducible refine NInt.i64 ?_)|(refine Ai (fun hc hcP=> ?_) (fun hc hcP=> ?_)<;>try(exfalso;omega))));(all_goals(conv=>whnf))
    refine⟨i+1,by omega,by omega,?_⟩
    rw[hs]
    exact leQ
   ·obtain rfl:i=l.length:=by omega
    rw[List.take_length]
    (repeat'((conv=>whnf);(refine Ai (fun hc hcP=> ?_) (fun hc hcP=> ?_)<;>try(exfalso;omega))));(all_goals(conv=>whnf))
    all_goals exact zE
    all_goals rfl
end Go.Proofs.YtokmjjkbginodaaGreatDoor
