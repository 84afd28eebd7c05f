/- MJ: the texts Kid Kid2 Law15, one behind the other. No condition but what each lemma says. -/
import Derived.Test.YtgamacmidohpfaaGreatDoorMG
import Derived.Test.YtgamacmidohpfaaGreatDoorME
import Derived.Test.YtgamacmidohpfaaGreatDoorMI
set_option maxRecDepth 100000
set_option maxHeartbeats 16000000
namespace Go.Proofs.YtgamacmidohpfaaGreatDoor
open Go.RowKit
theorem Ak (c n:Nat) (k:Bool) (l:List UInt8) (hl:l.length≤1000000000):(Ae c n k l).length≤l.length+6:=by
 have:=Hl l.length (by omega)
 simp only[Ae,I3,List.length_cons,List.length_append];omega
theorem X7 (l:List UInt8) (hl:l.length≤100000000):Aa Tryz.prog 22 [.d (Ac false l)] (fun r=>r= .tup [Au 0 5 (Ae 0 4 false l),iv 0]):=by
 have hW:=I4 0 4 false [l] (by omega) (by omega) (by simp;omega) (by simp)
 rw[show [l].flatten=l by simp] at hW
 refine A3 9 _ Cq mixed Tryz.func22 rfl (by kernel_rfl) rfl rfl rfl rfl fun W0 fp0 z0=> ?_
 (repeat'((conv=>whnf);refine NCall.eq (hW) (by first|rfl|(simp only[AV.gives,AV.give,D.un,D.uns,Ag];first|done|rfl)) ?_));(all_goals(conv=>whnf))
 all_goals(refine NEnd.eq ?_;(repeat'(first|exact trivial|exact Ap _|refine And.intro ?_ ?_|exact rfl)))
 all_goals rfl
structure Kd where
 has:Bool
 id:List UInt8
 iss:List Gn
 ser:List UInt8
abbrev kdA (k:Kd):AV:= .agg [bv k.has,.d (Ac false k.id),.d (Fw k.iss),.d (Ac false k.ser)]
def Mg:List UInt8→Bool
 |[]=>false
 |[_]=>true
 |x::y::_=> !(x==0&&decide (y.toNat<128))&& !(x==255&&decide (128≤y.toNat))
theorem FU (x:UInt8) (n:Nat) (hn:n<256):((x.toNat:Int)==(n:Int))=(x==UInt8.ofNat n):=by
 rw[Bool.eq_iff_iff,beq_iff_eq,beq_iff_eq,←UInt8.toNat_inj,UInt8.toNat_ofNat',Nat.mod_eq_of_lt (by omega)];omega
theorem X8 (l:List UInt8) (hl:l.length≤100000000):Aa Tryz.prog 36 [.d (Ac false l)] (fun r=>r=bv (Mg l)):=by
 match l,hl with
 |[],_=>
  refine A3 34 _ Cq mixed Tryz.func36 rfl (by kernel_rfl) rfl rfl rfl rfl fun W0 fp0 z0=> ?_
  (repeat'((conv=>whnf);refine NBr.yes ?_));(all_goals(conv=>whnf))
  all_goals(refine NEnd.eq ?_;(repeat'(first|exact Ap _|refine And.intro ?_ ?_|exact rfl)))
 |[x],_=>
  refine A3 34 _ Cq mixed Tryz.func36 rfl (by kernel_rfl) rfl rfl rfl rfl fun W0 fp0 z0=> ?_
  (repeat'((conv=>whnf);refine NBr.yes ?_));(all_goals(conv=>whnf))
  all_goals(refine NEnd.eq ?_;(repeat'(first|exact Ap _|refine And.intro ?_ ?_|exact rfl)))
 |x::y::r,hl=>
  have h0:(x::y::r)[0]?=some x:=rfl
  have h1:(x::y::r)[1]?=some y:=rfl
  have e1:=tA y
  have q0:((x.toNat:Int)==0)=(x==0):=FU x 0 (by omega)
  have q1:((x.toNat:Int)==255)=(x==255):=FU x 255 (by omega)
  have hyl:=y.toNat_lt
  have q2:(((y.toNat/128*128:Nat):Int)==0)=decide (y.toNat<128):=by
   rw[Bool.eq_iff_iff,beq_iff_eq,decide_eq_true_eq];omega
  have q3:(((y.toNat/128*128:Nat):Int) !=0)=decide (128≤y.toNat):=by
   rw[Bool.eq_iff_iff,bne_iff_ne,decide_eq_true_eq];omega
  simp only[List.length_cons] at hl
  have c3:(((y.toNat/128*128:Nat):Int) !=0)= !(((y.toNat/128*128:Nat):Int)==0):=rfl
  have d2:decide (128≤y.toNat)= !decide (y.toNat<128):=by rw[Bool.eq_iff_iff,Bool.not_eq_true',decide_eq_true_eq,decide_eq_false_iff_not];omega
  rw[Mg,d2,←q0,←q1,←q2]
  cases c2:(((y.toNat/128*128:Nat):Int)==0)
  all_goals
   rw[c2] at c3
   by_cases x0:x.toNat=0
   ·have c0:((x.toNat:Int)==0)=true:=by rw[beq_iff_eq];omega
    have c1:((x.toNat:Int)==255)=false:=by rw[beq_eq_false_iff_ne];omega
    rw[c0,c1]
    simp only[Bool.not_true,Bool.not_false] at c3⊢
    refine A3 34 _ Cq mixed Tryz.func36 rfl (by kernel_rfl) rfl rfl rfl rfl fun W0 fp0 z0=> ?_
    (repeat'((conv=>whnf);first|refine NBr.yes ?_|refine NBr.no ?_|refine NBr.pos (by assumption) ?_|refine NBr.neg (by assumption) ?_|refine NIdx.bytes h0 ?_|refine NIdx.bytes h1 ?_|refine NInt.as (((y.toNat/128*128:Nat):Int)) (e1) ?_));(all_goals(conv=>whnf))
    all_goals(refine NEnd.eq ?_;(repeat'(first|exact Ap _|refine And.intro ?_ ?_|exact rfl)))
   ·have c0:((x.toNat:Int)==0)=false:=by rw[beq_eq_false_iff_ne];omega
    rw[c0]
    cases c1:((x.toNat:Int)==255)
    all_goals
     simp only[Bool.not_true,Bool.not_false] at c3⊢
     refine A3 34 _ Cq mixed Tryz.func36 rfl (by kernel_rfl) rfl rfl rfl rfl fun W0 fp0 z0=> ?_
     (repeat'((conv=>whnf);first|refine NBr.yes ?_|refine NBr.no ?_|refine NBr.pos (by assumption) ?_|refine NBr.neg (by assumption) ?_|refine NIdx.bytes h0 ?_|refine NIdx.bytes h1 ?_|refine NInt.as (((y.toNat/128*128:Nat):Int)) (e1) ?_));(all_goals(conv=>whnf))
     all_goals(refine NEnd.eq ?_;(repeat'(first|exact Ap _|refine And.intro ?_ ?_|exact rfl));(all_goals(conv=>whnf)))
     all_goals(rw[c3];rfl)
def kdV (k:Kd) (gv:Bool):Bool:=if k.has=false∧k.id≠[] then false else if(k.iss=[])≠(k.ser=[]) then false else k.iss=[]||gv&&Mg k.ser
theorem Lc (k:Kd) (gv:Bool) (hk:k.id.length≤100000000∧k.iss.length≤100000000∧k.ser.length≤100000000) (hG:k.iss≠[]→Aa Tryz.prog 35 [.d (Fw k.iss)] (fun r=>r=bv gv)):Aa Tryz.prog 17 [kdA k] (fun r=>r=bv (kdV k gv)):=by
 obtain⟨has,id,iss,ser⟩:=k
 obtain⟨l1,l2,l3⟩:=hk
 simp only at l1 l2 l3 hG
 have hI:=X8 ser l3
 have n0:∀{α:Type} (l:List α),l=[]→((l.length:Int)==0)=true:=fun l h=>by subst h;rfl
 have n1:∀{α:Type} (l:List α),l≠[]→((l.length:Int)==0)=false:=fun l h=>by
  cases l with
  |nil=>exact absurd rfl h
  |cons x r=>rw[beq_eq_false_iff_ne,List.length_cons];omega
 by_cases i0:iss=[]
 ·have g1:=n0 iss i0
  by_cases s0:ser=[]
  ·have g2:=n0 ser s0
   have gq:(!(((iss.length:Int)==0)==((ser.length:Int)==0)))=false:=by rw[g1,g2];rfl
   by_cases d0:id=[]
   ·have g3:decide ((id.length:Int)>0)=false:=by subst d0;rfl
    have e:kdV ⟨has,id,iss,ser⟩ gv=true:=by unfold kdV;simp[i0,s0,d0]
    rw[e]
    cases has
    all_goals
     refine A3 37 _ Cq mixed Tryz.func17 rfl (by kernel_rfl) rfl rfl rfl rfl fun W0 fp0 z0=> ?_
     (repeat'((conv=>whnf);first|refine NBr.yes ?_|refine NBr.no ?_|refine NBr.pos (by assumption) ?_|refine NBr.neg (by assumption) ?_));(all_goals(conv=>whnf))
     all_goals(refine NEnd.eq ?_;(repeat'(first|exact Ap _|refine And.intro ?_ ?_|exact rfl)))
   ·have g3:decide ((id.length:Int)>0)=true:=decide_eq_true (by cases id with|nil=>exact absurd rfl d0|cons x r=>simp only[List.length_cons];omega)
    have e:kdV ⟨has,id,iss,ser⟩ gv=has:=by unfold kdV;cases has<;>simp[i0,s0,d0]
    rw[e]
    cases has
    all_goals
     refine A3 37 _ Cq mixed Tryz.func17 rfl (by kernel_rfl) rfl rfl rfl rfl fun W0 fp0 z0=> ?_
     (repeat'((conv=>whnf);first|refine NBr.yes ?_|refine NBr.no ?_|refine NBr.pos (by assumption) ?_|refine NBr.neg (by assumption) ?_));(all_goals(conv=>whnf))
     all_goals(refine NEnd.eq ?_;(repeat'(first|exact Ap _|refine And.intro ?_ ?_|exact rfl)))
  ·have g2:=n1 ser s0
   have gq:(!(((iss.length:Int)==0)==((ser.length:Int)==0)))=true:=by rw[g1,g2];rfl
   have e:kdV ⟨has,id,iss,ser⟩ gv=false:=by unfold kdV;simp[i0,s0]
   rw[e]
   by_cases d0:id=[]
   ·have g3:decide ((id.length:Int)>0)=false:=by subst d0;rfl
    cases has
    all_goals
     refine A3 37 _ Cq mixed Tryz.func17 rfl (by kernel_rfl) rfl rfl rfl rfl fun W0 fp0 z0=> ?_
     (repeat'((conv=>whnf);first|refine NBr.yes ?_|refine NBr.no ?_|refine NBr.pos (by assumption) ?_|refine NBr.neg (by assumption) ?_));(all_goals(conv=>whnf))
     all_goals(refine NEnd.eq ?_;(repeat'(first|exact Ap _|refine And.intro ?_ ?_|exact rfl)))
   ·have g3:decide ((id.length:Int)>0)=true:=decide_eq_true (by cases id with|nil=>exact absurd rfl d0|cons x r=>simp only[List.length_cons];omega)
    cases has
    all_goals
     refine A3 37 _ Cq mixed Tryz.func17 rfl (by kernel_rfl) rfl rfl rfl rfl fun W0 fp0 z0=> ?_
     (repeat'((conv=>whnf);first|refine NBr.yes ?_|refine NBr.no ?_|refine NBr.pos (by assumption) ?_));(all_goals(conv=>whnf))
     all_goals(refine NEnd.eq ?_;(repeat'(first|exact Ap _|refine And.intro ?_ ?_|exact rfl)))
 ·have g1:=n1 iss i0
  have hG':=hG i0
  by_cases s0:ser=[]
  ·have g2:=n0 ser s0
   have gq:(!(((iss.length:Int)==0)==((ser.length:Int)==0)))=true:=by rw[g1,g2];rfl
   have e:kdV ⟨has,id,iss,ser⟩ gv=false:=by unfold kdV;simp[i0,s0]
   rw[e]
   by_cases d0:id=[]
   ·have g3:decide ((id.length:Int)>0)=false:=by subst d0;rfl
    cases has
    all_goals
     refine A3 37 _ Cq mixed Tryz.func17 rfl (by kernel_rfl) rfl rfl rfl rfl fun W0 fp0 z0=> ?_
     (repeat'((conv=>whnf);first|refine NBr.yes ?_|refine NBr.no ?_|refine NBr.pos (by assumption) ?_|refine NBr.neg (by assumption) ?_));(all_goals(conv=>whnf))
     all_goals(refine NEnd.eq ?_;(repeat'(first|exact Ap _|refine And.intro ?_ ?_|exact rfl)))
   ·have g3:decide ((id.length:Int)>0)=true:=decide_eq_true (by cases id with|nil=>exact absurd rfl d0|cons x r=>simp only[List.length_cons];omega)
    cases has
    all_goals
     refine A3 37 _ Cq mixed Tryz.func17 rfl (by kernel_rfl) rfl rfl rfl rfl fun W0 fp0 z0=> ?_
     (repeat'((conv=>whnf);first|refine NBr.yes ?_|refine NBr.no ?_|refine NBr.pos (by assumption) ?_));(all_goals(conv=>whnf))
     all_goals(refine NEnd.eq ?_;(repeat'(first|exact Ap _|refine And.intro ?_ ?_|exact rfl)))
  ·have g2:=n1 ser s0
   have gq:(!(((iss.length:Int)==0)==((ser.length:Int)==0)))=false:=by rw[g1,g2];rfl
   by_cases d0:id=[]
   ·have g3:decide ((id.length:Int)>0)=false:=by subst d0;rfl
    have e:kdV ⟨has,id,iss,ser⟩ gv=(gv&&Mg ser):=by unfold kdV;simp[i0,s0,d0]
    rw[e]
    cases has<;>cases gv
    all_goals
     refine A3 37 _ Cq mixed Tryz.func17 rfl (by kernel_rfl) rfl rfl rfl rfl fun W0 fp0 z0=> ?_
     (repeat'((conv=>whnf);first|refine NBr.yes ?_|refine NBr.no ?_|refine NBr.neg (by assumption) ?_|refine NCall.eq (hI) (by first|rfl|(simp only[AV.gives,AV.give,Ag];first|done|rfl)) ?_|refine NCall.eq (hG') (by first|rfl|(simp only[AV.gives,AV.give,As];first|done|rfl)) ?_));(all_goals(conv=>whnf))
     all_goals(refine NEnd.eq ?_;(repeat'(first|exact Ap _|refine And.intro ?_ ?_|exact rfl)))
   ·have g3:decide ((id.length:Int)>0)=true:=decide_eq_true (by cases id with|nil=>exact absurd rfl d0|cons x r=>simp only[List.length_cons];omega)
    have e:kdV ⟨has,id,iss,ser⟩ gv=(has&&(gv&&Mg ser)):=by unfold kdV;cases has<;>simp[i0,s0,d0]
    rw[e]
    cases has<;>cases gv
    all_goals
     refine A3 37 _ Cq mixed Tryz.func17 rfl (by kernel_rfl) rfl rfl rfl rfl fun W0 fp0 z0=> ?_
     (repeat'((conv=>whnf);first|refine NBr.yes ?_|refine NBr.no ?_|refine NBr.pos (by assumption) ?_|refine NBr.neg (by assumption) ?_|refine NCall.eq (hI) (by first|rfl|(simp only[AV.gives,AV.give,Ag];first|done|rfl)) ?_|refine NCall.eq (hG') (by first|rfl|(simp only[AV.gives,AV.give,As];first|done|rfl)) ?_));(all_goals(conv=>whnf))
     all_goals(refine NEnd.eq ?_;(repeat'(first|exact Ap _|refine And.intro ?_ ?_|exact rfl)))
def kdP (k:Kd) (body:List UInt8):List (List UInt8):=(if k.has then [Ae 2 0 false k.id] else [])++(if k.iss=[] then [] else [Ae 2 1 true body,Ae 2 2 false k.ser])
theorem Jf {P:Program} {C:Cx} {o:Oper} {σ:AS} {t:Nat} {k:IntKind} {m n:Int} {x y:Operand} {ats:Array TypeId} (v:Int) (hv:(if m<n then n else m)=v) (ho:o.op= .call {callee:= .builtin .max,args:=#[x,y],argTypes:=ats}) (hd:o.dst=some t) (ht:t<C.N) (hx:σ.eval x=some (.d (.v (.int k m)))) (hy:σ.eval y=some (.d (.v (.int k n)))):A5 P C o σ (σ.put t (.d (.v (.int k v)))):=
 At hd ht fun a w bm gt fp hg=>by
  have h1:=(hg.eval hx).val
  have h2:=(hg.eval hy).val
  refine⟨_,?_,.d (.v _)⟩
  simp only[execOp,ho,resolve,invoke,builtin,Sem.run_bind,Sem.run_pure,Result.andThen_ok,List.map_toArray,List.map_cons,List.map_nil,h1,h2]
  subst hv
  simp[go_sem]
  try omega
theorem Et (c n:Nat) (k:Bool) (p:List UInt8) (hc1:c≤3) (hn:n≤30) (hl:p.length≤900000000):Aa Tryz.prog 28 [iv c,bv k,iv n,.d (Cg [p])] (fun r=>r= .tup [Au 0 5 (Ae c n k p),iv 0]):=by
 have h:=I4 c n k [p] hc1 hn (by simpa using hl) (by simp)
 rwa[show [p].flatten=p by simp] at h
theorem V7 (k:Kd) (hh:k.has=true) (hi:k.iss=[]) (hl:k.id.length≤100000000) (hV:Aa Tryz.prog 17 [kdA k] (fun r=>r=bv true)):
 Aa Tryz.prog 14 [kdA k] (fun r=>r= .tup [Au 0 5 (Ae 0 16 true (Ae 2 0 false k.id)),iv 0]):=by
 obtain⟨has,id,iss,ser⟩:=k
 simp only at hh hi hl
 subst hh hi
 have hW:=Et 2 0 false id (by omega) (by omega) (by omega)
 have hl1:=Ak 2 0 false id (by omega)
 have hS:=H5 [Ae 2 0 false id] (by simp;omega) (by simp)
 rw[show [Ae 2 0 false id].flatten=Ae 2 0 false id by simp] at hS
 refine A3 58 _ Cq mixed Tryz.func14 rfl (by kernel_rfl) rfl rfl rfl rfl fun W0 fp0 z0=> ?_
 (repeat'((conv=>whnf);first|refine NBr.yes ?_|refine NBr.no ?_|refine NCall.eq (hV) (by first|rfl|(simp only[AV.gives,AV.give,D.un,Ag,As];first|done|rfl)) ?_));(all_goals(conv=>whnf))
 refine NStep.inlC 100 25 #[] Cq mixed rfl rfl rfl rfl Tryz.func27 rfl (by kernel_rfl) rfl rfl rfl rfl (fun gh=> ?_)
 (repeat'((conv=>whnf);first|refine NBr.no ?_|refine NCall.eq (hW) (by first|rfl|(simp only[AV.gives,AV.give,D.un,D.uns,Ag];first|done|rfl)) ?_|refine NStep.go (Jf 0 rfl rfl rfl (ltN rfl) rfl rfl) ?_|(refine NApp.at 1 _ ?_)|refine NCall.eq (hS) (by first|rfl|(simp only[AV.gives,AV.give,D.un,D.uns,Af,List.nil_append];first|done|rfl)) ?_));(all_goals(conv=>whnf))
 all_goals(refine NEnd.eq ?_;(repeat'(first|exact trivial|exact Ap _|refine And.intro ?_ ?_|exact rfl)))
 all_goals rfl
theorem V8 {P:Program} {C:Cx} {o:Oper} {σ:AS} {t:Nat} {k:IntKind} {x y z:Operand} {ats:Array TypeId} (ho:o.op= .call {callee:= .builtin .max,args:=#[x,y,z],argTypes:=ats}) (hd:o.dst=some t) (ht:t<C.N) (hx:σ.eval x=some (.d (.v (.int k 0)))) (hy:σ.eval y=some (.d (.v (.int k 0)))) (hz:σ.eval z=some (.d (.v (.int k 0)))):A5 P C o σ (σ.put t (.d (.v (.int k 0)))):=
 At hd ht fun a w bm gt fp hg=>by
  have h1:=(hg.eval hx).val
  have h2:=(hg.eval hy).val
  have h3:=(hg.eval hz).val
  refine⟨_,?_,.d (.v _)⟩
  simp only[execOp,ho,resolve,invoke,builtin,Sem.run_bind,Sem.run_pure,Result.andThen_ok,List.map_toArray,List.map_cons,List.map_nil,h1,h2,h3]
  simp[go_sem]
theorem yS (c n:Nat) (k:Bool) (l:List UInt8) (hc1:c≤3) (hn:n≤30) (hl:l.length≤900000000):∃h:Nat,Aa Tryz.prog 30 [.d (Ac false (Ae c n k l))] (fun r=>r= .tup [.agg [iv c,iv n,bv k,iv 0,iv h,iv (Ae c n k l).length],erA 0 0])∧(Ae c n k l).length=h+l.length∧((Ae c n k l).drop h).take ((Ae c n k l).length-h)=l∧(Ae c n k l).drop h=l:=by
 obtain⟨t,ht⟩:∃t:Tv,t=⟨c,n,k,l⟩:=⟨_,rfl⟩
 have hOk:t.ok:=by subst ht;exact⟨hc1,hn,by show l.length≤_;omega⟩
 have he:t.enc=Ae c n k l:=by subst ht;rfl
 have hB:=t.body
 have hL:=t.len
 have h5:=Hl t.v.length (by have:=hOk.v;omega)
 have hv:t.v=l:=by subst ht;rfl
 have hO:=Jv t.enc (by rw[hL,hv];unfold Tv.hd;omega)
 rw[Gt hOk] at hO
 have hx:erR ⟨t.el 0,0,0⟩= .tup [.agg [iv t.c,iv t.n,bv t.k,iv 0,iv (0+t.hd:Nat),iv (0+t.enc.length:Nat)],erA 0 0]:=rfl
 rw[hx,Nat.zero_add,Nat.zero_add,show t.c=c by subst ht;rfl,show t.n=n by subst ht;rfl,show t.k=k by subst ht;rfl] at hO
 rw[hv] at hB hL
 rw[he] at hO hB hL
 refine⟨t.hd,hO,hL,?_,hB⟩
 rw[hB]
 exact List.take_of_length_le (by rw[hL];omega)
theorem V9 (k:Kd) (body:List UInt8) (hi:k.iss≠[]) (hl:k.id.length≤100000000) (hlb:body.length≤100000000) (hls:k.ser.length≤100000000) (hV:Aa Tryz.prog 17 [kdA k] (fun r=>r=bv true))
 (hM:Aa Tryz.prog 29 [.d (Fw k.iss)] (fun r=>r= .tup [Au 0 5 (Ae 0 16 true body),iv 0])):
 Aa Tryz.prog 14 [kdA k] (fun r=>r= .tup [Au 0 5 (Ae 0 16 true (kdP k body).flatten),iv 0]):=by
 obtain⟨has,id,iss,ser⟩:=k
 simp only at hi hl hls hM
 have gi:decide ((iss.length:Int)>0)=true:=decide_eq_true (by cases iss with|nil=>exact absurd rfl hi|cons x r=>simp only[List.length_cons];omega)
 have hW:=Et 2 0 false id (by omega) (by omega) (by omega)
 have hW1:=Et 2 1 true body (by omega) (by omega) (by omega)
 have hW2:=Et 2 2 false ser (by omega) (by omega) (by omega)
 have hl0:=Ak 2 0 false id (by omega)
 have hl1:=Ak 2 1 true body (by omega)
 have hl2:=Ak 2 2 false ser (by omega)
 have hl3:=Ak 0 16 true body (by omega)
 obtain⟨hdn,hO,hL',hd,-⟩:=yS 0 16 true body (by omega) (by omega) (by omega)
 cases has
 ·rw[show kdP ⟨false,id,iss,ser⟩ body=[Ae 2 1 true body,Ae 2 2 false ser] by simp[kdP,hi]]
  have hS:=H5 [Ae 2 1 true body,Ae 2 2 false ser] (by simp;omega) (by simp)
  refine A3 58 _ Cq mixed Tryz.func14 rfl (by kernel_rfl) rfl rfl rfl rfl fun W0 fp0 z0=> ?_
  (repeat'((conv=>whnf);first|refine NBr.no ?_|refine NBr.pos (by assumption) ?_|refine NCall.eq (hV) (by first|rfl|(simp only[AV.gives,AV.give,D.un,Ag,As];first|done|rfl)) ?_|refine NCall.eq (hM) (by first|rfl|(simp only[AV.gives,AV.give,As];first|done|rfl)) ?_|refine NCall.eq (hO) (by first|rfl|(simp only[AV.gives,AV.give,Af];first|done|rfl)) ?_|refine NStep.go (V8 rfl rfl (ltN rfl) rfl rfl rfl) ?_|(refine NSl.bytes hdn (Ae 0 16 true body).length body hd ?_)));(all_goals(conv=>whnf))
  refine NStep.inlC 100 25 #[] Cq mixed rfl rfl rfl rfl Tryz.func27 rfl (by kernel_rfl) rfl rfl rfl rfl (fun gh=> ?_)
  (repeat'((conv=>whnf);first|refine NCall.eq (hW1) (by first|rfl|(simp only[AV.gives,AV.give,D.un,D.uns,Af];first|done|rfl)) ?_|refine NStep.go (Jf 0 rfl rfl rfl (ltN rfl) rfl rfl) ?_|(refine NApp.at 1 _ ?_)));(all_goals(conv=>whnf))
  refine NStep.inlC 100 25 #[] Cq mixed rfl rfl rfl rfl Tryz.func27 rfl (by kernel_rfl) rfl rfl rfl rfl (fun gh=> ?_)
  (repeat'((conv=>whnf);first|refine NBr.no ?_|refine NCall.eq (hW2) (by first|rfl|(simp only[AV.gives,AV.give,D.un,D.uns,Ag];first|done|rfl)) ?_|refine NStep.go (Jf 0 rfl rfl rfl (ltN rfl) rfl rfl) ?_|(refine NApp.at 2 _ ?_)|refine NCall.eq (hS) (by first|rfl|(simp only[AV.gives,AV.give,D.un,D.uns,Af,List.nil_append,List.cons_append];first|done|rfl)) ?_));(all_goals(conv=>whnf))
  all_goals(refine NEnd.eq ?_;(repeat'(first|exact trivial|exact Ap _|refine And.intro ?_ ?_|exact rfl)))
  all_goals rfl
 ·rw[show kdP ⟨true,id,iss,ser⟩ body=[Ae 2 0 false id,Ae 2 1 true body,Ae 2 2 false ser] by simp[kdP,hi]]
  have hS:=H5 [Ae 2 0 false id,Ae 2 1 true body,Ae 2 2 false ser] (by simp;omega) (by simp)
  refine A3 58 _ Cq mixed Tryz.func14 rfl (by kernel_rfl) rfl rfl rfl rfl fun W0 fp0 z0=> ?_
  (repeat'((conv=>whnf);first|refine NBr.yes ?_|refine NBr.no ?_|refine NCall.eq (hV) (by first|rfl|(simp only[AV.gives,AV.give,D.un,Ag,As];first|done|rfl)) ?_));(all_goals(conv=>whnf))
  refine NStep.inlC 100 25 #[] Cq mixed rfl rfl rfl rfl Tryz.func27 rfl (by kernel_rfl) rfl rfl rfl rfl (fun gh=> ?_)
  (repeat'((conv=>whnf);first|refine NBr.pos (by assumption) ?_|refine NCall.eq (hW) (by first|rfl|(simp only[AV.gives,AV.give,D.un,D.uns,Ag];first|done|rfl)) ?_|refine NStep.go (Jf 0 rfl rfl rfl (ltN rfl) rfl rfl) ?_|(refine NApp.at 1 _ ?_)|refine NCall.eq (hM) (by first|rfl|(simp only[AV.gives,AV.give,As];first|done|rfl)) ?_|refine NCall.eq (hO) (by first|rfl|(simp only[AV.gives,AV.give,Af];first|done|rfl)) ?_|refine NStep.go (V8 rfl rfl (ltN rfl) rfl rfl rfl) ?_|(refine NSl.bytes hdn (Ae 0 16 true body).length body hd ?_)));(all_goals(conv=>whnf))
  refine NStep.inlC 100 25 #[] Cq mixed rfl rfl rfl rfl Tryz.func27 rfl (by kernel_rfl) rfl rfl rfl rfl (fun gh=> ?_)
  (repeat'((conv=>whnf);first|refine NCall.eq (hW1) (by first|rfl|(simp only[AV.gives,AV.give,D.un,D.uns,Af];first|done|rfl)) ?_|refine NStep.go (Jf 0 rfl rfl rfl (ltN rfl) rfl rfl) ?_|(refine NApp.at 2 _ ?_)));(all_goals(conv=>whnf))
  refine NStep.inlC 100 25 #[] Cq mixed rfl rfl rfl rfl Tryz.func27 rfl (by kernel_rfl) rfl rfl rfl rfl (fun gh=> ?_)
  (repeat'((conv=>whnf);first|refine NBr.no ?_|refine NCall.eq (hW2) (by first|rfl|(simp only[AV.gives,AV.give,D.un,D.uns,Ag];first|done|rfl)) ?_|refine NStep.go (Jf 0 rfl rfl rfl (ltN rfl) rfl rfl) ?_|(refine NApp.at 3 _ ?_)|refine NCall.eq (hS) (by first|rfl|(simp only[AV.gives,AV.give,D.un,D.uns,Af,List.nil_append,List.cons_append];first|done|rfl)) ?_));(all_goals(conv=>whnf))
  all_goals(refine NEnd.eq ?_;(repeat'(first|exact trivial|exact Ap _|refine And.intro ?_ ?_|exact rfl)))
  all_goals rfl
theorem Oq:Aa Tryz.prog 9 [] (fun r=>r=bv true):=by
 have v1:=Lc ⟨true,[1,2],[],[]⟩ true (by decide) (fun h=>absurd rfl h)
 rw[show kdV ⟨true,[1,2],[],[]⟩ true=true by decide] at v1
 have m1:=V7 ⟨true,[1,2],[],[]⟩ rfl rfl (by decide) v1
 have l1:Aa Tryz.prog 35 [.d (Fw [gnV 2 [97]])] (fun r=>r=bv true):=Uz sI
 have v2:=Lc ⟨false,[],[gnV 2 [97]],[5]⟩ true ⟨by decide,by decide,by decide⟩ (fun _=>l1)
 rw[show kdV ⟨false,[],[gnV 2 [97]],[5]⟩ true=true by decide] at v2
 have m2:=V9 ⟨false,[],[gnV 2 [97]],[5]⟩ [130,1,97] (by simp) (by decide) (by decide) (by decide) v2 (Kf sI)
 have s1:=X7 [1,2] (by decide)
 have e1:Ae 0 16 true (Ae 2 0 false [1,2])=[48,4,128,2,1,2]:=by
  rw[Fb 2 0 false _ (by decide),Fb 0 16 true _ (by decide)];decide
 have e2:Ae 0 16 true (kdP ⟨false,[],[gnV 2 [97]],[5]⟩ [130,1,97]).flatten=[48,8,161,3,130,1,97,130,1,5]:=by
  rw[show(kdP ⟨false,[],[gnV 2 [97]],[5]⟩ [130,1,97]).flatten=Ae 2 1 true [130,1,97]++Ae 2 2 false [5] by simp[kdP],Fb 2 1 true _ (by decide),Fb 2 2 false _ (by decide),Fb 0 16 true _ (by decide)];decide
 have e3:Ae 0 4 false [1,2]=[4,2,1,2]:=by rw[Fb 0 4 false _ (by decide)];decide
 rw[e1] at m1
 rw[e2] at m2
 rw[e3] at s1
 have b1:=A7 false false [48,4,128,2,1,2] [48,4,128,2,1,2] (by decide) (by decide)
 have b2:=A7 false false [48,8,161,3,130,1,97,130,1,5] [48,8,161,3,130,1,97,130,1,5] (by decide) (by decide)
 have b3:=A7 false false [4,2,1,2] [4,2,1,2] (by decide) (by decide)
 rw[beq_self_eq_true] at b1 b2 b3
 refine A3 51 _ Cq mixed Tryz.func9 rfl (by kernel_rfl) rfl rfl rfl rfl fun W0 fp0 z0=> ?_
 (repeat'((conv=>whnf);first|refine NBr.yes ?_|(refine NCall.le (m1) ?_ ?_;focus((repeat'(first|exact trivial|exact Ap _|refine And.intro ?_ ?_|exact rfl|exact Or.inr rfl|refine Or.inr ?_));done))|(refine NCall.le (m2) ?_ ?_;focus((repeat'(first|exact trivial|exact Ap _|refine And.intro ?_ ?_|exact rfl|exact Or.inr rfl|refine Or.inr ?_));done))|(refine NCall.le (s1) ?_ ?_;focus((repeat'(first|exact trivial|exact Ap _|refine And.intro ?_ ?_));done))|(refine NCall.le (b1) ?_ ?_;focus((repeat'(first|exact trivial|exact Ap _|refine And.intro ?_ ?_|exact rfl|exact Or.inr rfl|refine Or.inr ?_));done))|(refine NCall.le (b2) ?_ ?_;focus((repeat'(first|exact trivial|exact Ap _|refine And.intro ?_ ?_|exact rfl|exact Or.inr rfl|refine Or.inr ?_));done))|(refine NCall.le (b3) ?_ ?_;focus((repeat'(first|exact trivial|exact Ap _|refine And.intro ?_ ?_));done))));(all_goals(conv=>whnf))
 all_goals(refine NEnd.eq ?_;(repeat'(first|exact Ap _|refine And.intro ?_ ?_|exact rfl)))
theorem fT (c o n:Nat) (h1:c=0→o=0) (h2:c≠0→o≤n):Aa Tryz.prog 21 [erA c o,iv n] (fun r=>r=bv true):=by
 by_cases hz:c=0
 ·have ho:=h1 hz
  subst hz ho
  refine A3 25 _ Cq mixed Tryz.func21 rfl (by kernel_rfl) rfl rfl rfl rfl fun W0 fp0 z0=> ?_
  (repeat'((conv=>whnf);refine NBr.yes ?_));(all_goals(conv=>whnf))
  all_goals(refine NEnd.eq ?_;(repeat'(first|exact Ap _|refine And.intro ?_ ?_|exact rfl)))
 ·have ho:=h2 hz
  have g1:((c:Int)==0)=false:=by rw[beq_eq_false_iff_ne];omega
  have g2:decide ((c:Int)>0)=true:=decide_eq_true (by omega)
  have g3:decide ((o:Int)≥0)=true:=decide_eq_true (by omega)
  have g4:decide ((o:Int)≤n)=true:=decide_eq_true (by omega)
  refine A3 25 _ Cq mixed Tryz.func21 rfl (by kernel_rfl) rfl rfl rfl rfl fun W0 fp0 z0=> ?_
  (repeat'((conv=>whnf);first|refine NBr.yes ?_|refine NBr.pos (by assumption) ?_|refine NBr.neg (by assumption) ?_));(all_goals(conv=>whnf))
  all_goals(refine NEnd.eq ?_;(repeat'(first|refine And.intro ?_ ?_|exact rfl));(all_goals(conv=>whnf)))
  all_goals assumption
theorem DC {n:Nat} {k:Int} (h:(n:Int)>k):decide ((n:Int)>k)=true:=by simpa using h
theorem FV {n:Nat} {k:Int} (h:¬(n:Int)>k):decide ((n:Int)>k)=false:=by simpa using h
end Go.Proofs.YtgamacmidohpfaaGreatDoor
