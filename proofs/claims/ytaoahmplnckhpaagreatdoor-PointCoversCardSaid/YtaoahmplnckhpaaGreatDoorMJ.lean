/- MJ: the texts Kid Kid2 Law15 Mul Mul2, one behind the other. No condition but what each lemma says. -/
import Derived.Test.YtaoahmplnckhpaaGreatDoorMG
import Derived.Test.YtaoahmplnckhpaaGreatDoorMI
set_option maxRecDepth 100000
set_option maxHeartbeats 16000000
namespace Go.Proofs.YtaoahmplnckhpaaGreatDoor
open Go.RowKit
theorem A2 (c n:Nat) (k:Bool) (l:List UInt8) (hl:l.length≤1000000000):(Ao c n k l).length≤l.length+6:=by
 have:=Iq l.length (by omega)
 simp only[Ao,M5,Ag,Aj];omega
structure Kd where
 has:Bool
 id:List UInt8
 iss:List Gn
 ser:List UInt8
theorem Zi {P:Program} {C:Cx} {o:Oper} {σ:AS} {t:Nat} {k:IntKind} {m n:Int} {x y:Operand} {ats:Array TypeId} (v:Int) (hv:(if m<n then n else m)=v) (ho:o.op= .call {callee:= .builtin .max,args:=#[x,y],argTypes:=ats}) (hd:o.dst=some t) (ht:t<C.N) (hx:σ.eval x=some (.d (.v (.int k m)))) (hy:σ.eval y=some (.d (.v (.int k n)))):Bf P C o σ (σ.put t (.d (.v (.int k v)))):=
 A1 hd ht fun a w bm gt fp hg=>by
  have h1:=(hg.eval hx).val
  have h2:=(hg.eval hy).val
  refine⟨_,?_,.d (.v _)⟩
  simp only[execOp,ho,resolve,invoke,builtin,Sem.run_bind,Sem.run_pure,Result.andThen_ok,List.map_toArray,List.map_cons,List.map_nil,h1,h2]
  subst hv
  simp[go_sem]
  try omega
theorem Dk (c n:Nat) (k:Bool) (p:List UInt8) (hc1:c≤3) (hn:n≤30) (hl:p.length≤900000000):Ac Tryz.prog 49 [iv c,bv k,iv n,.d (Dz [p])] (fun r=>r= .tup [Cg 0 5 (Ao c n k p),iv 0]):=by
 have h:=M7 c n k [p] hc1 hn (by simpa using hl) (by simp)
 rwa[show [p].flatten=p by simp] at h
theorem xA (c n:Nat) (k:Bool) (l:List UInt8) (hc1:c≤3) (hn:n≤30) (hl:l.length≤900000000):∃h:Nat,Ac Tryz.prog 87 [.d (Af false (Ao c n k l))] (fun r=>r= .tup [.agg [iv c,iv n,bv k,iv 0,iv h,iv (Ao c n k l).length],erA 0 0])∧(Ao c n k l).length=h+l.length∧((Ao c n k l).drop h).take ((Ao c n k l).length-h)=l∧(Ao c n k l).drop h=l:=by
 obtain⟨t,ht⟩:∃t:Tv,t=⟨c,n,k,l⟩:=⟨_,rfl⟩
 have hOk:t.ok:=by subst ht;exact⟨hc1,hn,by show l.length≤_;omega⟩
 have he:t.enc=Ao c n k l:=by subst ht;rfl
 have hB:=t.body
 have hL:=t.len
 have h5:=Iq t.v.length (by have:=hOk.v;omega)
 have hv:t.v=l:=by subst ht;rfl
 have hO:=Kz t.enc (by rw[hL,hv];unfold Tv.hd;omega)
 rw[He hOk] at hO
 have hx:erR ⟨t.el 0,0,0⟩= .tup [.agg [iv t.c,iv t.n,bv t.k,iv 0,iv (0+t.hd:Nat),iv (0+t.enc.length:Nat)],erA 0 0]:=rfl
 rw[hx,Nat.zero_add,Nat.zero_add,show t.c=c by subst ht;rfl,show t.n=n by subst ht;rfl,show t.k=k by subst ht;rfl] at hO
 rw[hv] at hB hL
 rw[he] at hO hB hL
 refine⟨t.hd,hO,hL,?_,hB⟩
 rw[hB]
 exact List.take_of_length_le (by rw[hL];omega)
def Ek (b:List UInt8):Bool:=(D0 b).code==0
theorem mG (b:List UInt8):(∃s,D0 b=⟨[s],0,0⟩)∨(∃c o,c≠0∧D0 b=⟨[],c,o⟩):=by
 have hF:=Fh b 16 b.length (by omega) 0 (by omega)
 dsimp only at hF
 unfold D0
 generalize Bg b 16 0 b.length=r at hF
 by_cases h:r.code=0
 ·obtain⟨s,rfl,h1,h2⟩:=hF.1 h
  by_cases h3:s.stop<b.length
  ·rw[Gl h3];exact .inr ⟨_,_,by simp,rfl⟩
  ·rw[Iy h3];exact .inl ⟨s,rfl⟩
 ·obtain⟨l,c,o⟩:=r
  have hl:l=[]:=(hF.2 h).2
  subst hl
  have h':¬c=0:=h
  rw[Hb];exact .inr ⟨c,o,h',by simp[SR.bad]⟩
theorem Eo {α:Type} (f:α→Bool) {l:List α} {i:Nat} {x:α} (h:l[i]?=some x) (hx:f x=true) (ha:(l.take i).all f=true):(l.take (i+1)).all f=true:=by
 obtain⟨hlt,he⟩:=As.1 h
 rw[List.take_succ_eq_append_getElem hlt,he,List.all_append,ha];simp[hx]
theorem rV {α:Type} (f:α→Bool):∀{l:List α} {i:Nat} {x:α},(l.take i).all f=true→l[i]?=some x→f x=false→(l.takeWhile f).length=i∧l.all f=false
 |[],i,x,_,h,_=>by simp at h
 |y::r,0,x,_,h,hx=>by
  obtain rfl:y=x:=by simpa using h
  simp[hx]
 |y::r,i+1,x,ha,h,hx=>by
  rw[List.take_succ_cons,List.all_cons,Ap] at ha
  obtain⟨q1,q2⟩:=rV f ha.2 (by simpa using h) hx
  rw[List.takeWhile_cons,ha.1,if_pos rfl,Ag,q1,List.all_cons,q2]
  simp
def Jo (p:List UInt8):List D:=[Af true p]
theorem Be (l:List (List UInt8)):D.uns (l.flatMap Jo)=l.flatMap Hr:=by
 induction l with
 |nil=>rfl
 |cons p r ih=>
  show D.un (Af true p)::D.uns (r.flatMap Jo)=_
  rw[Ai,ih];rfl
structure Mu where
 oid:List UInt8
 vs:List (List UInt8)
theorem Kj {p:List UInt8}:∀{l:List (List UInt8)},p∈l→p.length≤l.flatten.length
 |[],h=>by cases h
 |q::r,h=>by
  rw[List.flatten_cons,Aj]
  rcases List.mem_cons.1 h with rfl|h
  ·omega
  ·have:=Kj h;omega
structure Mu.sm (m:Mu):Prop where
 o:m.oid.length≤70000
 n:m.vs.length≤1000000
 v:m.vs.flatten.length≤70000
end Go.Proofs.YtaoahmplnckhpaaGreatDoor
