/- MJ: the texts Kid Kid2 Law15, one behind the other. No condition but what each lemma says. -/
import Derived.Test.YtgamacmidohpfaaGreatDoorMG
import Derived.Test.YtgamacmidohpfaaGreatDoorMI
set_option maxRecDepth 100000
set_option maxHeartbeats 16000000
namespace Go.Proofs.YtgamacmidohpfaaGreatDoor
open Go.RowKit
theorem At (c n:Nat) (k:Bool) (l:List UInt8) (hl:l.length≤1000000000):(Ai c n k l).length≤l.length+6:=by
 have:=Ih l.length (by omega)
 simp only[Ai,Ju,Ah,Ap];omega
theorem Yd (l:List UInt8) (hl:l.length≤100000000):Ab Tryz.prog 22 [.d (Ag false l)] (fun r=>r= .tup [Be 0 5 (Ai 0 4 false l),iv 0]):=by
 have hW:=Jv 0 4 false [l] (by omega) (by omega) (by simp;omega) (by simp)
 rw[show [l].flatten=l by simp] at hW
 refine Bw 9 _ C5 mixed Tryz.func22 rfl (by kernel_rfl) rfl rfl rfl rfl fun W0 fp0 z0=> ?_
 (repeat'((conv=>whnf);refine Aa (hW) (by first|rfl|(simp only[AV.gives,AV.give,D.un,D.uns,Al];first|done|rfl)) ?_));(all_goals(conv=>whnf))
 all_goals(refine A6 ?_;(repeat'(first|exact trivial|exact Ay _|refine And.intro ?_ ?_|exact rfl)))
 all_goals rfl
structure Kd where
 has:Bool
 id:List UInt8
 iss:List Gn
 ser:List UInt8
abbrev kdA (k:Kd):AV:= .agg [bv k.has,.d (Ag false k.id),.d (Hl k.iss),.d (Ag false k.ser)]
def M7:List UInt8→Bool
 |[]=>false
 |[_]=>true
 |x::y::_=> !(x==0&&decide (y.toNat<128))&& !(x==255&&decide (128≤y.toNat))
theorem FR (x:UInt8) (n:Nat) (hn:n<256):((x.toNat:Int)==(n:Int))=(x==UInt8.ofNat n):=by
 rw[Bool.eq_iff_iff,beq_iff_eq,beq_iff_eq,←UInt8.toNat_inj,UInt8.toNat_ofNat',Nat.mod_eq_of_lt (by omega)];omega
theorem Ye (l:List UInt8) (hl:l.length≤100000000):Ab Tryz.prog 36 [.d (Ag false l)] (fun r=>r=bv (M7 l)):=by
 match l,hl with
 |[],_=>
  refine Bw 34 _ C5 mixed Tryz.func36 rfl (by kernel_rfl) rfl rfl rfl rfl fun W0 fp0 z0=> ?_
  (repeat'((conv=>whnf);refine Ac ?_));(all_goals(conv=>whnf))
  all_goals(refine A6 ?_;(repeat'(first|exact Ay _|refine And.intro ?_ ?_|exact rfl)))
 |[x],_=>
  refine Bw 34 _ C5 mixed Tryz.func36 rfl (by kernel_rfl) rfl rfl rfl rfl fun W0 fp0 z0=> ?_
  (repeat'((conv=>whnf);refine Ac ?_));(all_goals(conv=>whnf))
  all_goals(refine A6 ?_;(repeat'(first|exact Ay _|refine And.intro ?_ ?_|exact rfl)))
 |x::y::r,hl=>
  have h0:(x::y::r)[0]?=some x:=rfl
  have h1:(x::y::r)[1]?=some y:=rfl
  have e1:=sV y
  have q0:((x.toNat:Int)==0)=(x==0):=FR x 0 (by omega)
  have q1:((x.toNat:Int)==255)=(x==255):=FR x 255 (by omega)
  have hyl:=y.toNat_lt
  have q2:(((y.toNat/128*128:Nat):Int)==0)=decide (y.toNat<128):=by
   rw[Bool.eq_iff_iff,beq_iff_eq,decide_eq_true_eq];omega
  have q3:(((y.toNat/128*128:Nat):Int) !=0)=decide (128≤y.toNat):=by
   rw[Bool.eq_iff_iff,bne_iff_ne,decide_eq_true_eq];omega
  simp only[Ah] at hl
  have c3:(((y.toNat/128*128:Nat):Int) !=0)= !(((y.toNat/128*128:Nat):Int)==0):=rfl
  have d2:decide (128≤y.toNat)= !decide (y.toNat<128):=by rw[Bool.eq_iff_iff,Bool.not_eq_true',decide_eq_true_eq,decide_eq_false_iff_not];omega
  rw[M7,d2,←q0,←q1,←q2]
  cases c2:(((y.toNat/128*128:Nat):Int)==0)
  all_goals
   rw[c2] at c3
   by_cases x0:x.toNat=0
   ·have c0:((x.toNat:Int)==0)=true:=by rw[beq_iff_eq];omega
    have c1:((x.toNat:Int)==255)=false:=by rw[beq_eq_false_iff_ne];omega
    rw[c0,c1]
    simp only[Bool.not_true,Bool.not_false] at c3⊢
    refine Bw 34 _ C5 mixed Tryz.func36 rfl (by kernel_rfl) rfl rfl rfl rfl fun W0 fp0 z0=> ?_
    (repeat'((conv=>whnf);first|refine Ac ?_|refine Af ?_|refine Av (by assumption) ?_|refine Ax (by assumption) ?_|refine NIdx.bytes h0 ?_|refine NIdx.bytes h1 ?_|refine NInt.as (((y.toNat/128*128:Nat):Int)) (e1) ?_));(all_goals(conv=>whnf))
    all_goals(refine A6 ?_;(repeat'(first|exact Ay _|refine And.intro ?_ ?_|exact rfl)))
   ·have c0:((x.toNat:Int)==0)=false:=by rw[beq_eq_false_iff_ne];omega
    rw[c0]
    cases c1:((x.toNat:Int)==255)
    all_goals
     simp only[Bool.not_true,Bool.not_false] at c3⊢
     refine Bw 34 _ C5 mixed Tryz.func36 rfl (by kernel_rfl) rfl rfl rfl rfl fun W0 fp0 z0=> ?_
     (repeat'((conv=>whnf);first|refine Ac ?_|refine Af ?_|refine Av (by assumption) ?_|refine Ax (by assumption) ?_|refine NIdx.bytes h0 ?_|refine NIdx.bytes h1 ?_|refine NInt.as (((y.toNat/128*128:Nat):Int)) (e1) ?_));(all_goals(conv=>whnf))
     all_goals(refine A6 ?_;(repeat'(first|exact Ay _|refine And.intro ?_ ?_|exact rfl));(all_goals(conv=>whnf)))
     all_goals(rw[c3];rfl)
def kdV (k:Kd) (gv:Bool):Bool:=if k.has=false∧k.id≠[] then false else if(k.iss=[])≠(k.ser=[]) then false else k.iss=[]||gv&&M7 k.ser
theorem L3 (k:Kd) (gv:Bool) (hk:k.id.length≤100000000∧k.iss.length≤100000000∧k.ser.length≤100000000) (hG:k.iss≠[]→Ab Tryz.prog 35 [.d (Hl k.iss)] (fun r=>r=bv gv)):Ab Tryz.prog 17 [kdA k] (fun r=>r=bv (kdV k gv)):=by
 obtain⟨has,id,iss,ser⟩:=k
 obtain⟨l1,l2,l3⟩:=hk
 simp only at l1 l2 l3 hG
 have hI:=Ye ser l3
 have n0:∀{α:Type} (l:List α),l=[]→((l.length:Int)==0)=true:=fun l h=>by subst h;rfl
 have n1:∀{α:Type} (l:List α),l≠[]→((l.length:Int)==0)=false:=fun l h=>by
  cases l with
  |nil=>exact absurd rfl h
  |cons x r=>rw[beq_eq_false_iff_ne,Ah];omega
 by_cases i0:iss=[]
 ·have g1:=n0 iss i0
  by_cases s0:ser=[]
  ·have g2:=n0 ser s0
   have gq:(!(((iss.length:Int)==0)==((ser.length:Int)==0)))=false:=by rw[g1,g2];rfl
   by_cases d0:id=[]
   ·have g3:decide ((id.length:Int)>0)=false:=by subst d0;rfl
    have e:kdV ⟨has,id,iss,ser⟩ gv=true:=by unfold kdV;simp[i0,s0,d0]
    rw[e]
    cases has
    all_goals
     refine Bw 37 _ C5 mixed Tryz.func17 rfl (by kernel_rfl) rfl rfl rfl rfl fun W0 fp0 z0=> ?_
     (repeat'((conv=>whnf);first|refine Ac ?_|refine Af ?_|refine Av (by assumption) ?_|refine Ax (by assumption) ?_));(all_goals(conv=>whnf))
     all_goals(refine A6 ?_;(repeat'(first|exact Ay _|refine And.intro ?_ ?_|exact rfl)))
   ·have g3:decide ((id.length:Int)>0)=true:=decide_eq_true (by cases id with|nil=>exact absurd rfl d0|cons x r=>simp only[Ah];omega)
    have e:kdV ⟨has,id,iss,ser⟩ gv=has:=by unfold kdV;cases has<;>simp[i0,s0,d0]
    rw[e]
    cases has
    all_goals
     refine Bw 37 _ C5 mixed Tryz.func17 rfl (by kernel_rfl) rfl rfl rfl rfl fun W0 fp0 z0=> ?_
     (repeat'((conv=>whnf);first|refine Ac ?_|refine Af ?_|refine Av (by assumption) ?_|refine Ax (by assumption) ?_));(all_goals(conv=>whnf))
     all_goals(refine A6 ?_;(repeat'(first|exact Ay _|refine And.intro ?_ ?_|exact rfl)))
  ·have g2:=n1 ser s0
   have gq:(!(((iss.length:Int)==0)==((ser.length:Int)==0)))=true:=by rw[g1,g2];rfl
   have e:kdV ⟨has,id,iss,ser⟩ gv=false:=by unfold kdV;simp[i0,s0]
   rw[e]
   by_cases d0:id=[]
   ·have g3:decide ((id.length:Int)>0)=false:=by subst d0;rfl
    cases has
    all_goals
     refine Bw 37 _ C5 mixed Tryz.func17 rfl (by kernel_rfl) rfl rfl rfl rfl fun W0 fp0 z0=> ?_
     (repeat'((conv=>whnf);first|refine Ac ?_|refine Af ?_|refine Av (by assumption) ?_|refine Ax (by assumption) ?_));(all_goals(conv=>whnf))
     all_goals(refine A6 ?_;(repeat'(first|exact Ay _|refine And.intro ?_ ?_|exact rfl)))
   ·have g3:decide ((id.length:Int)>0)=true:=decide_eq_true (by cases id with|nil=>exact absurd rfl d0|cons x r=>simp only[Ah];omega)
    cases has
    all_goals
     refine Bw 37 _ C5 mixed Tryz.func17 rfl (by kernel_rfl) rfl rfl rfl rfl fun W0 fp0 z0=> ?_
     (repeat'((conv=>whnf);first|refine Ac ?_|refine Af ?_|refine Av (by assumption) ?_));(all_goals(conv=>whnf))
     all_goals(refine A6 ?_;(repeat'(first|exact Ay _|refine And.intro ?_ ?_|exact rfl)))
 ·have g1:=n1 iss i0
  have hG':=hG i0
  by_cases s0:ser=[]
  ·have g2:=n0 ser s0
   have gq:(!(((iss.length:Int)==0)==((ser.length:Int)==0)))=true:=by rw[g1,g2];rfl
   have e:kdV ⟨has,id,iss,ser⟩ gv=false:=by unfold kdV;simp[i0,s0]
   rw[e]
   by_cases d0:id=[]
   ·have g3:decide ((id.length:Int)>0)=false:=by subst d0;rfl
    cases has
    all_goals
     refine Bw 37 _ C5 mixed Tryz.func17 rfl (by kernel_rfl) rfl rfl rfl rfl fun W0 fp0 z0=> ?_
     (repeat'((conv=>whnf);first|refine Ac ?_|refine Af ?_|refine Av (by assumption) ?_|refine Ax (by assumption) ?_));(all_goals(conv=>whnf))
     all_goals(refine A6 ?_;(repeat'(first|exact Ay _|refine And.intro ?_ ?_|exact rfl)))
   ·have g3:decide ((id.length:Int)>0)=true:=decide_eq_true (by cases id with|nil=>exact absurd rfl d0|cons x r=>simp only[Ah];omega)
    cases has
    all_goals
     refine Bw 37 _ C5 mixed Tryz.func17 rfl (by kernel_rfl) rfl rfl rfl rfl fun W0 fp0 z0=> ?_
     (repeat'((conv=>whnf);first|refine Ac ?_|refine Af ?_|refine Av (by assumption) ?_));(all_goals(conv=>whnf))
     all_goals(refine A6 ?_;(repeat'(first|exact Ay _|refine And.intro ?_ ?_|exact rfl)))
  ·have g2:=n1 ser s0
   have gq:(!(((iss.length:Int)==0)==((ser.length:Int)==0)))=false:=by rw[g1,g2];rfl
   by_cases d0:id=[]
   ·have g3:decide ((id.length:Int)>0)=false:=by subst d0;rfl
    have e:kdV ⟨has,id,iss,ser⟩ gv=(gv&&M7 ser):=by unfold kdV;simp[i0,s0,d0]
    rw[e]
    cases has<;>cases gv
    all_goals
     refine Bw 37 _ C5 mixed Tryz.func17 rfl (by kernel_rfl) rfl rfl rfl rfl fun W0 fp0 z0=> ?_
     (repeat'((conv=>whnf);first|refine Ac ?_|refine Af ?_|refine Ax (by assumption) ?_|refine Aa (hI) (by first|rfl|(simp only[AV.gives,AV.give,Al];first|done|rfl)) ?_|refine Aa (hG') (by first|rfl|(simp only[AV.gives,AV.give,Bb];first|done|rfl)) ?_));(all_goals(conv=>whnf))
     all_goals(refine A6 ?_;(repeat'(first|exact Ay _|refine And.intro ?_ ?_|exact rfl)))
   ·have g3:decide ((id.length:Int)>0)=true:=decide_eq_true (by cases id with|nil=>exact absurd rfl d0|cons x r=>simp only[Ah];omega)
    have e:kdV ⟨has,id,iss,ser⟩ gv=(has&&(gv&&M7 ser)):=by unfold kdV;cases has<;>simp[i0,s0,d0]
    rw[e]
    cases has<;>cases gv
    all_goals
     refine Bw 37 _ C5 mixed Tryz.func17 rfl (by kernel_rfl) rfl rfl rfl rfl fun W0 fp0 z0=> ?_
     (repeat'((conv=>whnf);first|refine Ac ?_|refine Af ?_|refine Av (by assumption) ?_|refine Ax (by assumption) ?_|refine Aa (hI) (by first|rfl|(simp only[AV.gives,AV.give,Al];first|done|rfl)) ?_|refine Aa (hG') (by first|rfl|(simp only[AV.gives,AV.give,Bb];first|done|rfl)) ?_));(all_goals(conv=>whnf))
     all_goals(refine A6 ?_;(repeat'(first|exact Ay _|refine And.intro ?_ ?_|exact rfl)))
def kdP (k:Kd) (body:List UInt8):List (List UInt8):=(if k.has then [Ai 2 0 false k.id] else [])++(if k.iss=[] then [] else [Ai 2 1 true body,Ai 2 2 false k.ser])
theorem J6 {P:Program} {C:Cx} {o:Oper} {σ:AS} {t:Nat} {k:IntKind} {m n:Int} {x y:Operand} {ats:Array TypeId} (v:Int) (hv:(if m<n then n else m)=v) (ho:o.op= .call {callee:= .builtin .max,args:=#[x,y],argTypes:=ats}) (hd:o.dst=some t) (ht:t<C.N) (hx:σ.eval x=some (.d (.v (.int k m)))) (hy:σ.eval y=some (.d (.v (.int k n)))):Bo P C o σ (σ.put t (.d (.v (.int k v)))):=
 A7 hd ht fun a w bm gt fp hg=>by
  have h1:=(hg.eval hx).val
  have h2:=(hg.eval hy).val
  refine⟨_,?_,.d (.v _)⟩
  simp only[execOp,ho,resolve,invoke,builtin,Sem.run_bind,Sem.run_pure,Result.andThen_ok,List.map_toArray,List.map_cons,List.map_nil,h1,h2]
  subst hv
  simp[go_sem]
  try omega
theorem Fl (c n:Nat) (k:Bool) (p:List UInt8) (hc1:c≤3) (hn:n≤30) (hl:p.length≤900000000):Ab Tryz.prog 28 [iv c,bv k,iv n,.d (C7 [p])] (fun r=>r= .tup [Be 0 5 (Ai c n k p),iv 0]):=by
 have h:=Jv c n k [p] hc1 hn (by simpa using hl) (by simp)
 rwa[show [p].flatten=p by simp] at h
theorem Wk (k:Kd) (hh:k.has=true) (hi:k.iss=[]) (hl:k.id.length≤100000000) (hV:Ab Tryz.prog 17 [kdA k] (fun r=>r=bv true)):
 Ab Tryz.prog 14 [kdA k] (fun r=>r= .tup [Be 0 5 (Ai 0 16 true (Ai 2 0 false k.id)),iv 0]):=by
 obtain⟨has,id,iss,ser⟩:=k
 simp only at hh hi hl
 subst hh hi
 have hW:=Fl 2 0 false id (by omega) (by omega) (by omega)
 have hl1:=At 2 0 false id (by omega)
 have hS:=I0 [Ai 2 0 false id] (by simp;omega) (by simp)
 rw[show [Ai 2 0 false id].flatten=Ai 2 0 false id by simp] at hS
 refine Bw 58 _ C5 mixed Tryz.func14 rfl (by kernel_rfl) rfl rfl rfl rfl fun W0 fp0 z0=> ?_
 (repeat'((conv=>whnf);first|refine Ac ?_|refine Af ?_|refine Aa (hV) (by first|rfl|(simp only[AV.gives,AV.give,D.un,Al,Bb];first|done|rfl)) ?_));(all_goals(conv=>whnf))
 refine G1 100 25 #[] C5 mixed rfl rfl rfl rfl Tryz.func27 rfl (by kernel_rfl) rfl rfl rfl rfl (fun gh=> ?_)
 (repeat'((conv=>whnf);first|refine Af ?_|refine Aa (hW) (by first|rfl|(simp only[AV.gives,AV.give,D.un,D.uns,Al];first|done|rfl)) ?_|refine An (J6 0 rfl rfl rfl (ltN rfl) rfl rfl) ?_|(refine Ht 1 _ ?_)|refine Aa (hS) (by first|rfl|(simp only[AV.gives,AV.give,D.un,D.uns,Ak,List.nil_append];first|done|rfl)) ?_));(all_goals(conv=>whnf))
 all_goals(refine A6 ?_;(repeat'(first|exact trivial|exact Ay _|refine And.intro ?_ ?_|exact rfl)))
 all_goals rfl
theorem Wl {P:Program} {C:Cx} {o:Oper} {σ:AS} {t:Nat} {k:IntKind} {x y z:Operand} {ats:Array TypeId} (ho:o.op= .call {callee:= .builtin .max,args:=#[x,y,z],argTypes:=ats}) (hd:o.dst=some t) (ht:t<C.N) (hx:σ.eval x=some (.d (.v (.int k 0)))) (hy:σ.eval y=some (.d (.v (.int k 0)))) (hz:σ.eval z=some (.d (.v (.int k 0)))):Bo P C o σ (σ.put t (.d (.v (.int k 0)))):=
 A7 hd ht fun a w bm gt fp hg=>by
  have h1:=(hg.eval hx).val
  have h2:=(hg.eval hy).val
  have h3:=(hg.eval hz).val
  refine⟨_,?_,.d (.v _)⟩
  simp only[execOp,ho,resolve,invoke,builtin,Sem.run_bind,Sem.run_pure,Result.andThen_ok,List.map_toArray,List.map_cons,List.map_nil,h1,h2,h3]
  simp[go_sem]
theorem yQ (c n:Nat) (k:Bool) (l:List UInt8) (hc1:c≤3) (hn:n≤30) (hl:l.length≤900000000):∃h:Nat,Ab Tryz.prog 30 [.d (Ag false (Ai c n k l))] (fun r=>r= .tup [.agg [iv c,iv n,bv k,iv 0,iv h,iv (Ai c n k l).length],erA 0 0])∧(Ai c n k l).length=h+l.length∧((Ai c n k l).drop h).take ((Ai c n k l).length-h)=l∧(Ai c n k l).drop h=l:=by
 obtain⟨t,ht⟩:∃t:Tv,t=⟨c,n,k,l⟩:=⟨_,rfl⟩
 have hOk:t.ok:=by subst ht;exact⟨hc1,hn,by show l.length≤_;omega⟩
 have he:t.enc=Ai c n k l:=by subst ht;rfl
 have hB:=t.body
 have hL:=t.len
 have h5:=Ih t.v.length (by have:=hOk.v;omega)
 have hv:t.v=l:=by subst ht;rfl
 have hO:=Kn t.enc (by rw[hL,hv];unfold Tv.hd;omega)
 rw[Hf hOk] at hO
 have hx:erR ⟨t.el 0,0,0⟩= .tup [.agg [iv t.c,iv t.n,bv t.k,iv 0,iv (0+t.hd:Nat),iv (0+t.enc.length:Nat)],erA 0 0]:=rfl
 rw[hx,Nat.zero_add,Nat.zero_add,show t.c=c by subst ht;rfl,show t.n=n by subst ht;rfl,show t.k=k by subst ht;rfl] at hO
 rw[hv] at hB hL
 rw[he] at hO hB hL
 refine⟨t.hd,hO,hL,?_,hB⟩
 rw[hB]
 exact List.take_of_length_le (by rw[hL];omega)
theorem Wm (k:Kd) (body:List UInt8) (hi:k.iss≠[]) (hl:k.id.length≤100000000) (hlb:body.length≤100000000) (hls:k.ser.length≤100000000) (hV:Ab Tryz.prog 17 [kdA k] (fun r=>r=bv true))
 (hM:Ab Tryz.prog 29 [.d (Hl k.iss)] (fun r=>r= .tup [Be 0 5 (Ai 0 16 true body),iv 0])):
 Ab Tryz.prog 14 [kdA k] (fun r=>r= .tup [Be 0 5 (Ai 0 16 true (kdP k body).flatten),iv 0]):=by
 obtain⟨has,id,iss,ser⟩:=k
 simp only at hi hl hls hM
 have gi:decide ((iss.length:Int)>0)=true:=decide_eq_true (by cases iss with|nil=>exact absurd rfl hi|cons x r=>simp only[Ah];omega)
 have hW:=Fl 2 0 false id (by omega) (by omega) (by omega)
 have hW1:=Fl 2 1 true body (by omega) (by omega) (by omega)
 have hW2:=Fl 2 2 false ser (by omega) (by omega) (by omega)
 have hl0:=At 2 0 false id (by omega)
 have hl1:=At 2 1 true body (by omega)
 have hl2:=At 2 2 false ser (by omega)
 have hl3:=At 0 16 true body (by omega)
 obtain⟨hdn,hO,hL',hd,-⟩:=yQ 0 16 true body (by omega) (by omega) (by omega)
 cases has
 ·rw[show kdP ⟨false,id,iss,ser⟩ body=[Ai 2 1 true body,Ai 2 2 false ser] by simp[kdP,hi]]
  have hS:=I0 [Ai 2 1 true body,Ai 2 2 false ser] (by simp;omega) (by simp)
  refine Bw 58 _ C5 mixed Tryz.func14 rfl (by kernel_rfl) rfl rfl rfl rfl fun W0 fp0 z0=> ?_
  (repeat'((conv=>whnf);first|refine Af ?_|refine Av (by assumption) ?_|refine Aa (hV) (by first|rfl|(simp only[AV.gives,AV.give,D.un,Al,Bb];first|done|rfl)) ?_|refine Aa (hM) (by first|rfl|(simp only[AV.gives,AV.give,Bb];first|done|rfl)) ?_|refine Aa (hO) (by first|rfl|(simp only[AV.gives,AV.give,Ak];first|done|rfl)) ?_|refine An (Wl rfl rfl (ltN rfl) rfl rfl rfl) ?_|(refine NSl.bytes hdn (Ai 0 16 true body).length body hd ?_)));(all_goals(conv=>whnf))
  refine G1 100 25 #[] C5 mixed rfl rfl rfl rfl Tryz.func27 rfl (by kernel_rfl) rfl rfl rfl rfl (fun gh=> ?_)
  (repeat'((conv=>whnf);first|refine Aa (hW1) (by first|rfl|(simp only[AV.gives,AV.give,D.un,D.uns,Ak];first|done|rfl)) ?_|refine An (J6 0 rfl rfl rfl (ltN rfl) rfl rfl) ?_|(refine Ht 1 _ ?_)));(all_goals(conv=>whnf))
  refine G1 100 25 #[] C5 mixed rfl rfl rfl rfl Tryz.func27 rfl (by kernel_rfl) rfl rfl rfl rfl (fun gh=> ?_)
  (repeat'((conv=>whnf);first|refine Af ?_|refine Aa (hW2) (by first|rfl|(simp only[AV.gives,AV.give,D.un,D.uns,Al];first|done|rfl)) ?_|refine An (J6 0 rfl rfl rfl (ltN rfl) rfl rfl) ?_|(refine Ht 2 _ ?_)|refine Aa (hS) (by first|rfl|(simp only[AV.gives,AV.give,D.un,D.uns,Ak,List.nil_append,List.cons_append];first|done|rfl)) ?_));(all_goals(conv=>whnf))
  all_goals(refine A6 ?_;(repeat'(first|exact trivial|exact Ay _|refine And.intro ?_ ?_|exact rfl)))
  all_goals rfl
 ·rw[show kdP ⟨true,id,iss,ser⟩ body=[Ai 2 0 false id,Ai 2 1 true body,Ai 2 2 false ser] by simp[kdP,hi]]
  have hS:=I0 [Ai 2 0 false id,Ai 2 1 true body,Ai 2 2 false ser] (by simp;omega) (by simp)
  refine Bw 58 _ C5 mixed Tryz.func14 rfl (by kernel_rfl) rfl rfl rfl rfl fun W0 fp0 z0=> ?_
  (repeat'((conv=>whnf);first|refine Ac ?_|refine Af ?_|refine Aa (hV) (by first|rfl|(simp only[AV.gives,AV.give,D.un,Al,Bb];first|done|rfl)) ?_));(all_goals(conv=>whnf))
  refine G1 100 25 #[] C5 mixed rfl rfl rfl rfl Tryz.func27 rfl (by kernel_rfl) rfl rfl rfl rfl (fun gh=> ?_)
  (repeat'((conv=>whnf);first|refine Av (by assumption) ?_|refine Aa (hW) (by first|rfl|(simp only[AV.gives,AV.give,D.un,D.uns,Al];first|done|rfl)) ?_|refine An (J6 0 rfl rfl rfl (ltN rfl) rfl rfl) ?_|(refine Ht 1 _ ?_)|refine Aa (hM) (by first|rfl|(simp only[AV.gives,AV.give,Bb];first|done|rfl)) ?_|refine Aa (hO) (by first|rfl|(simp only[AV.gives,AV.give,Ak];first|done|rfl)) ?_|refine An (Wl rfl rfl (ltN rfl) rfl rfl rfl) ?_|(refine NSl.bytes hdn (Ai 0 16 true body).length body hd ?_)));(all_goals(conv=>whnf))
  refine G1 100 25 #[] C5 mixed rfl rfl rfl rfl Tryz.func27 rfl (by kernel_rfl) rfl rfl rfl rfl (fun gh=> ?_)
  (repeat'((conv=>whnf);first|refine Aa (hW1) (by first|rfl|(simp only[AV.gives,AV.give,D.un,D.uns,Ak];first|done|rfl)) ?_|refine An (J6 0 rfl rfl rfl (ltN rfl) rfl rfl) ?_|(refine Ht 2 _ ?_)));(all_goals(conv=>whnf))
  refine G1 100 25 #[] C5 mixed rfl rfl rfl rfl Tryz.func27 rfl (by kernel_rfl) rfl rfl rfl rfl (fun gh=> ?_)
  (repeat'((conv=>whnf);first|refine Af ?_|refine Aa (hW2) (by first|rfl|(simp only[AV.gives,AV.give,D.un,D.uns,Al];first|done|rfl)) ?_|refine An (J6 0 rfl rfl rfl (ltN rfl) rfl rfl) ?_|(refine Ht 3 _ ?_)|refine Aa (hS) (by first|rfl|(simp only[AV.gives,AV.give,D.un,D.uns,Ak,List.nil_append,List.cons_append];first|done|rfl)) ?_));(all_goals(conv=>whnf))
  all_goals(refine A6 ?_;(repeat'(first|exact trivial|exact Ay _|refine And.intro ?_ ?_|exact rfl)))
  all_goals rfl
theorem yR:Ab Tryz.prog 9 [] (fun r=>r=bv true):=by
 have v1:=L3 ⟨true,[1,2],[],[]⟩ true (by decide) (fun h=>absurd rfl h)
 rw[show kdV ⟨true,[1,2],[],[]⟩ true=true by decide] at v1
 have m1:=Wk ⟨true,[1,2],[],[]⟩ rfl rfl (by decide) v1
 have l1:Ab Tryz.prog 35 [.d (Hl [gnV 2 [97]])] (fun r=>r=bv true):=U8 sE
 have v2:=L3 ⟨false,[],[gnV 2 [97]],[5]⟩ true ⟨by decide,by decide,by decide⟩ (fun _=>l1)
 rw[show kdV ⟨false,[],[gnV 2 [97]],[5]⟩ true=true by decide] at v2
 have m2:=Wm ⟨false,[],[gnV 2 [97]],[5]⟩ [130,1,97] (by simp) (by decide) (by decide) (by decide) v2 (K1 sE)
 have s1:=Yd [1,2] (by decide)
 have e1:Ai 0 16 true (Ai 2 0 false [1,2])=[48,4,128,2,1,2]:=by
  rw[Fz 2 0 false _ (by decide),Fz 0 16 true _ (by decide)];decide
 have e2:Ai 0 16 true (kdP ⟨false,[],[gnV 2 [97]],[5]⟩ [130,1,97]).flatten=[48,8,161,3,130,1,97,130,1,5]:=by
  rw[show(kdP ⟨false,[],[gnV 2 [97]],[5]⟩ [130,1,97]).flatten=Ai 2 1 true [130,1,97]++Ai 2 2 false [5] by simp[kdP],Fz 2 1 true _ (by decide),Fz 2 2 false _ (by decide),Fz 0 16 true _ (by decide)];decide
 have e3:Ai 0 4 false [1,2]=[4,2,1,2]:=by rw[Fz 0 4 false _ (by decide)];decide
 rw[e1] at m1
 rw[e2] at m2
 rw[e3] at s1
 have b1:=C4 false false [48,4,128,2,1,2] [48,4,128,2,1,2] (by decide) (by decide)
 have b2:=C4 false false [48,8,161,3,130,1,97,130,1,5] [48,8,161,3,130,1,97,130,1,5] (by decide) (by decide)
 have b3:=C4 false false [4,2,1,2] [4,2,1,2] (by decide) (by decide)
 rw[beq_self_eq_true] at b1 b2 b3
 refine Bw 51 _ C5 mixed Tryz.func9 rfl (by kernel_rfl) rfl rfl rfl rfl fun W0 fp0 z0=> ?_
 (repeat'((conv=>whnf);first|refine Ac ?_|(refine Bj (m1) ?_ ?_;focus((repeat'(first|exact trivial|exact Ay _|refine And.intro ?_ ?_|exact rfl|exact Or.inr rfl|refine Or.inr ?_));done))|(refine Bj (m2) ?_ ?_;focus((repeat'(first|exact trivial|exact Ay _|refine And.intro ?_ ?_|exact rfl|exact Or.inr rfl|refine Or.inr ?_));done))|(refine Bj (s1) ?_ ?_;focus((repeat'(first|exact trivial|exact Ay _|refine And.intro ?_ ?_));done))|(refine Bj (b1) ?_ ?_;focus((repeat'(first|exact trivial|exact Ay _|refine And.intro ?_ ?_|exact rfl|exact Or.inr rfl|refine Or.inr ?_));done))|(refine Bj (b2) ?_ ?_;focus((repeat'(first|exact trivial|exact Ay _|refine And.intro ?_ ?_|exact rfl|exact Or.inr rfl|refine Or.inr ?_));done))|(refine Bj (b3) ?_ ?_;focus((repeat'(first|exact trivial|exact Ay _|refine And.intro ?_ ?_));done))));(all_goals(conv=>whnf))
 all_goals(refine A6 ?_;(repeat'(first|exact Ay _|refine And.intro ?_ ?_|exact rfl)))
theorem CY {n:Nat} {k:Int} (h:(n:Int)>k):decide ((n:Int)>k)=true:=by simpa using h
theorem FS {n:Nat} {k:Int} (h:¬(n:Int)>k):decide ((n:Int)>k)=false:=by simpa using h
end Go.Proofs.YtgamacmidohpfaaGreatDoor
