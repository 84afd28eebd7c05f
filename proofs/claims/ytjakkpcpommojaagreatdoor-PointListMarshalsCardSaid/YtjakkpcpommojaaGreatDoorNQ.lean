/- NQ: the texts LawPL, one behind the other. No condition but what each lemma says. -/
import Derived.Test.YtjakkpcpommojaaGreatDoorNJ
namespace Go.Proofs.YtjakkpcpommojaaGreatDoor
open Go.RowKit
set_option maxRecDepth 100000
set_option maxHeartbeats 16000000
theorem aT {l:List Pt} (h:K9 l=true):l.length≤4∧∀p∈l,Kh p=true:=by
 unfold K9 at h
 rw[Bool.and_eq_true,decide_eq_true_iff] at h
 obtain⟨h1,h2⟩:=h
 rw[List.take_of_length_le (by omega)] at h1
 exact⟨h2,List.all_eq_true.1 h1⟩
theorem fN {α:Type} (f:α→List UInt8) (C:Nat):∀{l:List α},(∀x∈l,(f x).length≤C)→(l.map f).flatten.length≤C*l.length
 |[],_=>by simp
 |x::r,h=>by
  have h1:=h x (by simp)
  have h2:=fN f C (l:=r) fun y hy=>h y (by simp[hy])
  rw[List.map_cons,List.flatten_cons,List.length_append,List.length_cons,Nat.mul_add];omega
theorem AO {l:List Pt} (h:K9 l=true) (hs:∀p∈l,K7 p.s):ptsM l∧ptsZ l∧(∀p∈l,(ptE p).length≤379000∧p.eqs)∧(l.map ptE).flatten.length≤1516000:=by
 obtain⟨h1,h2⟩:=aT h
 have hf:=fN ptE 379000 (l:=l) fun p hp=>(P2 (h2 p hp)).2.2.1
 exact⟨⟨by omega,fun p hp=>⟨(P2 (h2 p hp)).1,hs p hp⟩,by omega⟩,⟨by omega,fun p hp=>(P2 (h2 p hp)).2.1,by omega⟩,fun p hp=>(P2 (h2 p hp)).2.2,by omega⟩
theorem FP {v:List Pt} (hs:∀p∈v,p.sm) (hl:(v.map ptE).flatten.length≤2000000000):∀x∈(Aw (Jp v) 0 16).l,∃p∈v,elO (Jp v) x=ptE p:=by
 obtain⟨ts,t1,t2⟩:=Mx (l:=v.map ptE) fun p hp=>by
  obtain⟨m,hm,rfl⟩:=List.mem_map.1 hp
  exact zX (hs m hm)
 have hfl:(v.map ptE).flatten=Cm ts:=by rw[t2,Ef]
 obtain⟨q,e1,e2⟩:=Eu (c:=0) (n:=16) ts (by omega) (by omega) t1 (by rw[←hfl];omega)
 intro x hx
 unfold Jp at hx⊢
 rw[hfl] at hx⊢
 rw[e1] at hx
 have hm:elO (Ah 0 16 true (Cm ts)) x∈(els q ts).map (elO (Ah 0 16 true (Cm ts))):=List.mem_map_of_mem hx
 rw[e2,←t2] at hm
 obtain⟨p,hp,e⟩:=List.mem_map.1 hm
 exact⟨p,hp,e.symm⟩
theorem D2 {p:Prop} (h:p:=by first|rfl|(simp only[AV.gives,AV.ren,AV.give,D.un,D.uns,Aj,Ak,List.nil_append,List.append_nil,List.cons_append,Ap,A0,Bk,A7,Ay,Bj,Bs,Bg,A9,Bx,A5,Hg,K3,aR,aQ,FK,oI,oJ,aS];first|done|rfl)):p:=h
theorem AP (l:List Pt) (h:l.length≤big∧∀p∈l,p.okk):Ab Tryz.prog 5 [.d (Hr l)] (fun r=>r=bv true):=by
 have hA:=aP
 have hF:=fM l h
 cases hf:K9 l
 ·rw[hf] at hF
  refine acQ 75 Tryz.func5 rfl rfl fun _ _ _=> ?_
  (repeat'((conv=>whnf);first|refine Ac ?_|refine Ae ?_|refine Aa hA rfl ?_|refine Aa hF D2 ?_|exact zE))
 rw[hf] at hF
 obtain⟨hm,hz,hq,hl⟩:=AO hf fun p hp=>(h.2 p hp).s
 have hn:=hm.n
 have hlen:=Aq 0 16 true (l.map ptE).flatten (by omega)
 have hel:(Jp l).length≤1600000:=by show(Ah 0 16 true (l.map ptE).flatten).length≤_;omega
 have hM:=lE l hm
 have hR:=sY l hz
 have hV:=Vu l hm
 have hW:=X5 l hz
 cases hw:Vo l
 ·rw[hw] at hM hR hV hW
  have hM:Ab Tryz.prog 23 [.d (Hr l)] (fun r=>r= .tup [Ax,iv 8]):=hM
  have hR:Ab Tryz.prog 24 [.d (Hr l)] (fun r=>r= .tup [Ax,iv 8]):=hR
  have hB:=C5 false false [] [] (by simp) (by simp)
  rw[beq_self_eq_true] at hB
  refine acQ 75 Tryz.func5 rfl rfl fun _ _ _=> ?_
  (repeat'((conv=>whnf);first|refine Ac ?_|refine Ae ?_|refine Aa hA rfl ?_|refine Aa hF D2 ?_|refine Aa hM D2 ?_|refine Aa hR D2 ?_|refine Aa hV D2 ?_|refine Aa hW D2 ?_|refine A6 hB M5 ?_|exact zE))
 ·rw[hw] at hM hR hV hW
  have hM:Ab Tryz.prog 23 [.d (Hr l)] (fun r=>r= .tup [A4 0 5 (Jp l),iv 0]):=hM
  have hR:Ab Tryz.prog 24 [.d (Hr l)] (fun r=>r= .tup [A4 0 5 (Jp l),iv 0]):=hR
  obtain⟨w0,w1⟩:=Vp.1 hw
  have hsm:∀p∈l,p.sm:=fun p hp=>(hm.m p hp).1
  have hP:=lF (Jp l) (by omega) (fun x hx=>by
   obtain⟨p,hp,e⟩:=FP hsm (by omega) x hx
   rw[e];have:=(hq p hp).1;omega)
  rw[FB w0 w1 hsm (by omega)] at hP
  have hP:Ab Tryz.prog 27 [.d (Ag false (Jp l))] (fun r=>r= .tup [.d (KW l),erA 0 0]):=hP
  have hC:=FE l l ⟨by omega,fun p hp=>(hq p hp).2⟩ ⟨by omega,fun p hp=>(hq p hp).2⟩
  rw[decide_eq_true rfl] at hC
  have hB:=C5 false false (Jp l) (Jp l) (by omega) (by omega)
  rw[beq_self_eq_true] at hB
  generalize Jp l=b at hM hR hP hB
  refine acQ 75 Tryz.func5 rfl rfl fun _ _ _=> ?_
  (repeat'((conv=>whnf);first|refine Ac ?_|refine Ae ?_|refine Aa hA rfl ?_|refine Aa hF D2 ?_|refine Aa hM D2 ?_|refine Aa hR D2 ?_|refine Aa hV D2 ?_|refine Aa hW D2 ?_|refine Aa hP D2 ?_|refine Aa hC D2 ?_|refine Aa hB D2 ?_|refine An (Qk rfl rfl (ltN rfl) rfl rfl) ?_|exact zE))
end Go.Proofs.YtjakkpcpommojaaGreatDoor
