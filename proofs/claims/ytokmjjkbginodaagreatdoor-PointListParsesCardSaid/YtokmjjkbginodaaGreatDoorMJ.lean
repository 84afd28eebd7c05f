/- MJ: the texts Kid Kid2 Law15 Mul Mul2, one behind the other. No condition but what each lemma says. -/
import Derived.Test.YtokmjjkbginodaaGreatDoorMG
import Derived.Test.YtokmjjkbginodaaGreatDoorMI
set_option maxRecDepth 100000
set_option maxHeartbeats 16000000
namespace Go.Proofs.YtokmjjkbginodaaGreatDoor
open Go.RowKit
theorem As (c n:Nat) (k:Bool) (l:List UInt8) (hl:l.length≤1000000000):(Ah c n k l).length≤l.length+6:=by
 have:=I9 l.length (by omega)
 simp only[Ah,Kb,Ag,Ap];omega
structure Kd where
 has:Bool
 id:List UInt8
 iss:List Gn
 ser:List UInt8
theorem Wb {P:Program} {C:Cx} {o:Oper} {σ:AS} {t:Nat} {k:IntKind} {m n:Int} {x y:Operand} {ats:Array TypeId} (v:Int) (hv:(if m<n then n else m)=v) (ho:o.op= .call {callee:= .builtin .max,args:=#[x,y],argTypes:=ats}) (hd:o.dst=some t) (ht:t<C.N) (hx:σ.eval x=some (.d (.v (.int k m)))) (hy:σ.eval y=some (.d (.v (.int k n)))):Bp P C o σ (σ.put t (.d (.v (.int k v)))):=
 Ba hd ht fun a w bm gt fp hg=>by
  have h1:=(hg.eval hx).val
  have h2:=(hg.eval hy).val
  refine⟨_,?_,.d (.v _)⟩
  simp only[execOp,ho,resolve,invoke,builtin,Sem.run_bind,Sem.run_pure,Result.andThen_ok,List.map_toArray,List.map_cons,List.map_nil,h1,h2]
  subst hv
  simp[go_sem]
  try omega
theorem D3 (c n:Nat) (k:Bool) (p:List UInt8) (hc1:c≤3) (hn:n≤30) (hl:p.length≤900000000):Ab Tryz.prog 26 [iv c,bv k,iv n,.d (Ds [p])] (fun r=>r= .tup [Bb 0 5 (Ah c n k p),iv 0]):=by
 have h:=Qg c n k [p] hc1 hn (by simpa using hl) (by simp)
 rwa[show [p].flatten=p by simp] at h
theorem GI (c n:Nat) (k:Bool) (l:List UInt8) (hc1:c≤3) (hn:n≤30) (hl:l.length≤900000000):∃h:Nat,Ab Tryz.prog 49 [.d (Af false (Ah c n k l))] (fun r=>r= .tup [.agg [iv c,iv n,bv k,iv 0,iv h,iv (Ah c n k l).length],erA 0 0])∧(Ah c n k l).length=h+l.length∧((Ah c n k l).drop h).take ((Ah c n k l).length-h)=l∧(Ah c n k l).drop h=l:=by
 obtain⟨t,ht⟩:∃t:Tv,t=⟨c,n,k,l⟩:=⟨_,rfl⟩
 have hOk:t.ok:=by subst ht;exact⟨hc1,hn,by show l.length≤_;omega⟩
 have he:t.enc=Ah c n k l:=by subst ht;rfl
 have hB:=t.body
 have hL:=t.len
 have h5:=I9 t.v.length (by have:=hOk.v;omega)
 have hv:t.v=l:=by subst ht;rfl
 have hO:=Lp t.enc (by rw[hL,hv];unfold Tv.hd;omega)
 rw[H8 hOk] at hO
 have hx:erR ⟨t.el 0,0,0⟩= .tup [.agg [iv t.c,iv t.n,bv t.k,iv 0,iv (0+t.hd:Nat),iv (0+t.enc.length:Nat)],erA 0 0]:=rfl
 rw[hx,Nat.zero_add,Nat.zero_add,show t.c=c by subst ht;rfl,show t.n=n by subst ht;rfl,show t.k=k by subst ht;rfl] at hO
 rw[hv] at hB hL
 rw[he] at hO hB hL
 refine⟨t.hd,hO,hL,?_,hB⟩
 rw[hB]
 exact List.take_of_length_le (by rw[hL];omega)
theorem AE (c o n:Nat) (h1:c=0→o=0) (h2:c≠0→o≤n):Ab Tryz.prog 14 [erA c o,iv n] (fun r=>r=bv true):=by
 by_cases hz:c=0
 ·have ho:=h1 hz
  subst hz ho
  refine Ns 25 _ C2 mixed Tryz.func14 rfl (by kernel_rfl) rfl rfl rfl rfl fun W0 fp0 z0=> ?_
  (repeat'((conv=>whnf);refine Ac ?_));(all_goals(conv=>whnf))
  all_goals(refine A7 ?_;(repeat'(first|exact Be _|refine And.intro ?_ ?_|exact rfl)))
 ·have ho:=h2 hz
  have g1:((c:Int)==0)=false:=by rw[beq_eq_false_iff_ne];omega
  have g2:decide ((c:Int)>0)=true:=decide_eq_true (by omega)
  have g3:decide ((o:Int)≥0)=true:=decide_eq_true (by omega)
  have g4:decide ((o:Int)≤n)=true:=decide_eq_true (by omega)
  refine Ns 25 _ C2 mixed Tryz.func14 rfl (by kernel_rfl) rfl rfl rfl rfl fun W0 fp0 z0=> ?_
  (repeat'((conv=>whnf);first|refine Ac ?_|refine Ay (by assumption) ?_|refine A0 (by assumption) ?_));(all_goals(conv=>whnf))
  all_goals(refine A7 ?_;(repeat'(first|refine And.intro ?_ ?_|exact rfl));(all_goals(conv=>whnf)))
  all_goals assumption
theorem LX {n:Nat} {k:Int} (h:(n:Int)>k):decide ((n:Int)>k)=true:=by simpa using h
theorem PM {n:Nat} {k:Int} (h:¬(n:Int)>k):decide ((n:Int)>k)=false:=by simpa using h
def Er (b:List UInt8):Bool:=(Ez b).code==0
theorem uA (b:List UInt8):(∃s,Ez b=⟨[s],0,0⟩)∨(∃c o,c≠0∧Ez b=⟨[],c,o⟩):=by
 have hF:=Gv b 16 b.length (by omega) 0 (by omega)
 dsimp only at hF
 unfold Ez
 generalize B4 b 16 0 b.length=r at hF
 by_cases h:r.code=0
 ·obtain⟨s,rfl,h1,h2⟩:=hF.1 h
  by_cases h3:s.stop<b.length
  ·rw[H7 h3];exact .inr ⟨_,_,by simp,rfl⟩
  ·rw[K8 h3];exact .inl ⟨s,rfl⟩
 ·obtain⟨l,c,o⟩:=r
  have hl:l=[]:=(hF.2 h).2
  subst hl
  have h':¬c=0:=h
  rw[Jb];exact .inr ⟨c,o,h',by simp[SR.bad]⟩
theorem Gw {α:Type} (f:α→Bool) {l:List α} {i:Nat} {x:α} (h:l[i]?=some x) (hx:f x=true) (ha:(l.take i).all f=true):(l.take (i+1)).all f=true:=by
 obtain⟨hlt,he⟩:=Aw.1 h
 rw[List.take_succ_eq_append_getElem hlt,he,List.all_append,ha];simp[hx]
theorem JU {α:Type} (f:α→Bool):∀{l:List α} {i:Nat} {x:α},(l.take i).all f=true→l[i]?=some x→f x=false→(l.takeWhile f).length=i∧l.all f=false
 |[],i,x,_,h,_=>by simp at h
 |y::r,0,x,_,h,hx=>by
  obtain rfl:y=x:=by simpa using h
  simp[hx]
 |y::r,i+1,x,ha,h,hx=>by
  rw[List.take_succ_cons,List.all_cons,At] at ha
  obtain⟨q1,q2⟩:=JU f ha.2 (by simpa using h) hx
  rw[List.takeWhile_cons,ha.1,if_pos rfl,Ag,q1,List.all_cons,q2]
  simp
def Dn (p:List UInt8):List D:=[Af true p]
theorem Bf (l:List (List UInt8)):D.uns (l.flatMap Dn)=l.flatMap Jy:=by
 induction l with
 |nil=>rfl
 |cons p r ih=>
  show D.un (Af true p)::D.uns (r.flatMap Dn)=_
  rw[An,ih];rfl
structure Mu where
 oid:List UInt8
 vs:List (List UInt8)
theorem Gc {p:List UInt8}:∀{l:List (List UInt8)},p∈l→p.length≤l.flatten.length
 |[],h=>by cases h
 |q::r,h=>by
  rw[List.flatten_cons,Ap]
  rcases List.mem_cons.1 h with rfl|h
  ·omega
  ·have:=Gc h;omega
structure Mu.sm (m:Mu):Prop where
 o:m.oid.length≤70000
 n:m.vs.length≤1000000
 v:m.vs.flatten.length≤70000
end Go.Proofs.YtokmjjkbginodaaGreatDoor
