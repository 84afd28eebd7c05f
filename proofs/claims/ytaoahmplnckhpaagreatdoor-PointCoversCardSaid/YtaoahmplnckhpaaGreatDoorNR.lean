/- NR: the texts Cov CovI, one behind the other. No condition but what each lemma says. -/
import Derived.Test.YtaoahmplnckhpaaGreatDoorNI
namespace Go.Proofs.YtaoahmplnckhpaaGreatDoor
open Go.RowKit
set_option maxRecDepth 100000
set_option maxHeartbeats 16000000
section
variable {P:Program} {C:Cx} {o:Oper} {σ:AS} {t:Nat}
theorem nD {xt yt:TypeId} {x y:Operand} {k:IntKind} {m n z:Int} (ho:o.op= .binOp .andNot xt x y yt) (hd:o.dst=some t) (ht:t<C.N) (hx:σ.eval x=some (.d (.v (.int k m)))) (hy:σ.eval y=some (.d (.v (.int k n)))) (hz:k.wrap ((BitVec.ofInt k.bits m&&& ~~~BitVec.ofInt k.bits n).toNat:Int)=z):Bf P C o σ (σ.put t (.d (.v (.int k z)))):=
 Xm ho hd ht hx hy fun w=>by subst hz;simp[eqGuard,binOp,Op.intBits,go_sem]
theorem N1 {xt yt:TypeId} {x y:Operand} {k:IntKind} {m n z:Int} (ho:o.op= .binOp .andNot xt x y yt) (hd:o.dst=some t) (ht:t<C.N) (hx:σ.eval x=some (.d (.v (.int k m)))) (hy:σ.eval y=some (.d (.v (.int k n)))) (hz:k.wrap ((BitVec.ofInt k.bits m&&& ~~~BitVec.ofInt k.bits n).toNat:Int)=z):LA P C o ⟨[],some (t,.d (.v (.int k z))),none,none,[],[],[],[]⟩ σ:=fun _ hT' _ _=>
 nD ho hd ht (tr hT' (by rw[ho];simp[Op.operands]) hx) (tr hT' (by rw[ho];simp[Op.operands]) hy) hz
end
def Lj (s:Nat):Nat:=if s=0 then 510 else s
def yY (a b:Nat):Bool:=(mbr a).all fun m=>(mbr b).any fun k=>k==m
def W9 (a b:Nat):Nat:=(BitVec.ofInt 64 (a:Int)&&& ~~~BitVec.ofInt 64 (b:Int)).toNat
theorem uG (a:Nat):BitVec.ofInt 64 (a:Int)=BitVec.ofNat 64 a:=by
 apply BitVec.eq_of_toNat_eq
 simp[]
theorem iT {a b:Nat} (ha:a<512):W9 a b≤a:=by
 unfold W9
 rw[BitVec.toNat_and,uG,BitVec.toNat_ofNat,Nat.mod_eq_of_lt (by omega)]
 exact Nat.and_le_left
theorem Qc {s m:Nat}:m∈mbr s↔m<9∧s.testBit m=true:=by
 unfold mbr mbI
 rw[List.mem_filter,List.mem_range,Nat.testBit_eq_decide_div_mod_eq,beq_iff_eq,decide_eq_true_iff]
theorem yZ {a b:Nat} (ha:a<512) (_:b<512):yY a b=decide (W9 a b=0):=by
 rw[Bool.eq_iff_iff,decide_eq_true_iff]
 have hbit:∀i,(W9 a b).testBit i=(a.testBit i&& !b.testBit i):=fun i=>by
  by_cases hi:i<64
  ·unfold W9
   rw[←BitVec.getLsbD,BitVec.getLsbD_and,BitVec.getLsbD_not,uG,uG,BitVec.getLsbD_ofNat,BitVec.getLsbD_ofNat]
   simp[hi]
  ·have h1:(W9 a b).testBit i=false:=Nat.testBit_lt_two_pow (Nat.lt_of_le_of_lt (iT ha) (Nat.lt_of_lt_of_le (show a<2^9 by omega) (Nat.pow_le_pow_right (by omega) (by omega))))
   have h2:a.testBit i=false:=Nat.testBit_lt_two_pow (Nat.lt_of_lt_of_le (show a<2^9 by omega) (Nat.pow_le_pow_right (by omega) (by omega)))
   rw[h1,h2];rfl
 unfold yY
 rw[List.all_eq_true]
 constructor
 ·intro h
  apply Nat.eq_of_testBit_eq
  intro i
  rw[hbit,Nat.zero_testBit]
  by_cases hai:a.testBit i=true
  ·have h9:i<9:=by
    apply Decidable.byContradiction
    intro hn
    have:a.testBit i=false:=Nat.testBit_lt_two_pow (Nat.lt_of_lt_of_le (show a<2^9 by omega) (Nat.pow_le_pow_right (by omega) (by omega)))
    rw[this] at hai;cases hai
   have:=h i (Qc.2 ⟨h9,hai⟩)
   rw[List.any_eq_true] at this
   obtain⟨k,hk,e⟩:=this
   obtain rfl:=beq_iff_eq.1 e
   rw[hai,(Qc.1 hk).2];rfl
  ·rw[Bool.not_eq_true] at hai
   rw[hai];rfl
 ·intro h m hm
  obtain⟨m1,m2⟩:=Qc.1 hm
  have:=hbit m
  rw[h,Nat.zero_testBit,m2,Bool.true_and] at this
  rw[List.any_eq_true]
  exact⟨m,Qc.2 ⟨m1,by simpa using this.symm⟩,beq_self_eq_true m⟩
theorem iU (s:Nat) (hs:s<512):Ac Tryz.prog 25 [iv s] (fun r=>r=iv (Lj s)):=by
 by_cases h:s=0
 ·subst h
  refine acQ 6 Tryz.func25 rfl rfl fun _ _ _=> ?_
  (repeat'((conv=>whnf);refine Ab ?_));(all_goals(conv=>whnf))
  all_goals exact zE
 ·have g:((s:Int)==0)=false:=by rw[beq_eq_false_iff_ne];omega
  rw[show Lj s=s from if_neg h]
  refine acQ 6 Tryz.func25 rfl rfl fun _ _ _=> ?_
  (repeat'((conv=>whnf);refine zN ?_));(all_goals(conv=>whnf))
  all_goals exact zE
theorem aE (s:Nat) (hs:s<512):Ac Tryz.prog 36 [iv s] (fun r=>r=iv (Lj s)):=by
 by_cases h:s=0
 ·subst h
  refine acQ 6 Tryz.func36 rfl rfl fun _ _ _=> ?_
  (repeat'((conv=>whnf);refine Ab ?_));(all_goals(conv=>whnf))
  all_goals exact zE
 ·have g:((s:Int)==0)=false:=by rw[beq_eq_false_iff_ne];omega
  rw[show Lj s=s from if_neg h]
  refine acQ 6 Tryz.func36 rfl rfl fun _ _ _=> ?_
  (repeat'((conv=>whnf);refine zN ?_));(all_goals(conv=>whnf))
  all_goals exact zE
theorem Qd {s:Nat} (h:s<512):Lj s<512:=by unfold Lj;split<;>omega
theorem iV (a b:List UInt8) (_:a.length≤1000000000) (_:b.length≤1000000000):Ac Tryz.prog 28 [.d (Af false a),.d (Af false b)] (fun r=>r=bv (a==b)):=by
 refine acQ 10 Tryz.func28 rfl rfl fun _ _ _=> ?_
 (repeat'((conv=>whnf);(with_reducible refine Gf ?_)));(all_goals(conv=>whnf))
 all_goals exact zE
theorem ES {g:Gn} (h:g.mid) (hw:gnW g=true):Ac Tryz.prog 31 [gnA g] (fun r=>r= .tup [Cg 0 5 (gnE g),iv 0]):=by
 have:=mU g h
 rw[hw] at this
 exact this
theorem Mk {p:Prop} (h:p:=by first|rfl|(simp only[AV.gives,AV.ren,AV.give,D.un,D.uns,Ai,Am,List.nil_append,List.append_nil,List.cons_append,List.drop_zero,List.drop,At,A5,Cm,Bm,A4,Cf,Ck,Cn,Bp,C7,Be];first|done|rfl)):p:=h
theorem nE (a:List UInt8) (h:Gn) (ha:a.length≤1000000000) (hm:h.mid) (hw:gnW h=true):Ac Tryz.prog 32 [gnA h,.d (.cp false [Af false a])] (fun r=>r=bv (a==gnE h)):=by
 have hM:=ES hm hw
 have hl:=gW hm
 have hB:=iV a (gnE h) ha (by omega)
 generalize gnE h=e at hM hB⊢
 refine acQ 14 Tryz.func32 rfl rfl fun _ _ _=> ?_
 (repeat'((conv=>whnf);first|refine Aa hM Mk ?_|refine Aa hB Mk ?_|exact zE))
def Pr (f:Gn→Bool) (l:List Gn):Int:=if l.all f=true then-1 else((l.takeWhile f).length:Int)
theorem iW (f:Gn→Bool) (l:List Gn):decide (Pr f l≥0)= !l.all f:=by
 unfold Pr
 cases l.all f
 ·rw[if_neg (by simp)];exact decide_eq_true (by omega)
 ·rw[if_pos rfl];rfl
theorem nF (a:List UInt8) (l:List Gn) (ha:a.length≤1000000000) (hn:l.length≤1000000) (hl:∀g∈l,g.mid∧gnW g=true):Ac Tryz.prog 63 [.d (Ch l),.cl 32 [] [.d (.cp false [Af false a])]] (fun r=>r=iv (Pr (fun h=> !(a==gnE h)) l)):=by
 refine acQ 19 Tryz.func63 rfl rfl fun _ _ _=> ?_
 (all_goals(conv=>whnf))
 refine Az (fun i:Nat=>i≤l.length∧(l.take i).all (fun h=> !(a==gnE h))=true) (fun i=>l.length-i) (fun i=>⟨[(0,.d (Ch l)),(1,.cl 32 [] [.d (.cp false [Af false a])]),(7,iv l.length),(8,iv i)],[],[]⟩) 0 ⟨by omega,rfl⟩ leQ ?_
 rintro i ⟨hi,hal⟩
 by_cases hik:i<l.length
 ·have gi:decide ((i:Int)<l.length)=true:=decide_eq_true (by omega)
  obtain⟨b,hg⟩:∃p,l[i]?=some p:=⟨_,Ak hik⟩
  obtain⟨m1,m2⟩:=hl b (Bk hg)
  have hF:=nE a b ha m1 m2
  cases hb:(a==gnE b)
  ·rw[hb] at hF
   (repeat'((conv=>whnf);first|refine zP ?_|refine Ae ?_|refine NIdx.tab (fun _=>rfl) hg ?_|refine Aa hF Mk ?_|(with_reducible refine NInt.i64 ?_)));(all_goals(conv=>whnf))
   refine⟨i+1,⟨by omega,Eo (fun h=> !(a==gnE h)) hg (by rw[hb];rfl) hal⟩,by omega,?_⟩
   exact leQ
  ·rw[hb] at hF
   obtain⟨q1,q2⟩:=rV (fun h=> !(a==gnE h)) hal hg (by rw[hb];rfl)
   rw[show Pr (fun h=> !(a==gnE h)) l=i by unfold Pr;rw[q2,q1];rfl]
   (repeat'((conv=>whnf);first|refine zP ?_|refine Ab ?_|refine NIdx.tab (fun _=>rfl) hg ?_|refine Aa hF Mk ?_|exact zE))
 ·have gi:decide ((i:Int)<l.length)=false:=decide_eq_false (by omega)
  obtain rfl:i=l.length:=by omega
  rw[List.take_length] at hal
  rw[show Pr (fun h=> !(a==gnE h)) l= -1 by unfold Pr;rw[hal];rfl]
  (repeat'((conv=>whnf);refine zN ?_));(all_goals(conv=>whnf))
  all_goals exact zE
theorem nG (a:List UInt8) (l:List Gn) (ha:a.length≤1000000000) (hn:l.length≤1000000) (hl:∀g∈l,g.mid∧gnW g=true):Ac Tryz.prog 29 [.d (Ch l),.cl 32 [] [.d (.cp false [Af false a])]] (fun r=>r=bv (!l.all fun h=> !(a==gnE h))):=by
 have hI:=nF a l ha hn hl
 rw[←iW]
 refine acQ 9 Tryz.func29 rfl rfl fun _ _ _=> ?_
 (repeat'((conv=>whnf);refine Aa hI Mk ?_));(all_goals(conv=>whnf))
 all_goals exact zE
theorem eV (g:Gn) (p:Pt) (hg:g.mid∧gnW g=true) (hn:p.f.length≤1000000) (hl:∀g∈p.f,g.mid∧gnW g=true):Ac Tryz.prog 30 [gnA g,.d (.cp false [Ch p.f,Dm p.r,.v (.int .i64 p.s),Ch p.i])] (fun r=>r=bv (!p.f.all fun h=> !(gnE g==gnE h))):=by
 have hM:=ES hg.1 hg.2
 have hle:=gW hg.1
 have hC:=nG (gnE g) p.f (by omega) hn hl
 generalize gnE g=e at hM hC⊢
 obtain⟨f,r,s,i⟩:=p
 simp only at hC⊢
 refine acQ 15 Tryz.func30 rfl rfl fun _ _ _=> ?_
 (repeat'((conv=>whnf);first|refine Aa hM Mk ?_|refine Aa hC Mk ?_|exact zE))
abbrev ptK (p:Pt):AV:= .d (.cp false [Ch p.f,Dm p.r,.v (.int .i64 p.s),Ch p.i])
theorem B7 {p:Prop} (h:p:=by first|rfl|(simp only[AV.gives,AV.ren,AV.give,D.un,D.uns,Ai,Am,List.nil_append,List.append_nil,List.cons_append,List.drop_zero,List.drop,At,A5,Cm,Bm,A4,Cf,Ck,Cn,Bp,C7,Be];first|done|rfl)):p:=h
theorem eW (l:List Gn) (p:Pt) (hn:l.length≤1000000) (hl:∀g∈l,g.mid∧gnW g=true) (hpn:p.f.length≤1000000) (hp:∀g∈p.f,g.mid∧gnW g=true):Ac Tryz.prog 63 [.d (Ch l),.cl 30 [] [ptK p]] (fun r=>r=iv (Pr (fun g=>p.f.all fun h=> !(gnE g==gnE h)) l)):=by
 have hF0:=fun g hg=>eV g p hg hpn hp
 have hun:(ptK p)= .d (.cp false [Ch p.f,Dm p.r,.v (.int .i64 p.s),Ch p.i]):=rfl
 obtain⟨f,r,s,i⟩:=p
 simp only at hF0 hpn hp⊢
 generalize hq:(fun g=>f.all fun h=> !(gnE g==gnE h))=q
 have hF:∀g,g.mid∧gnW g=true→Ac Tryz.prog 30 [gnA g,.d (.cp false [Ch f,Dm r,.v (.int .i64 s),Ch i])] (fun x=>x=bv (!q g)):=fun g hg=>by rw[←hq];exact hF0 g hg
 clear hF0 hq hun
 refine acQ 19 Tryz.func63 rfl rfl fun _ _ _=> ?_
 (all_goals(conv=>whnf))
 refine Az (fun j:Nat=>j≤l.length∧(l.take j).all q=true) (fun j=>l.length-j) (fun j=>⟨[(0,.d (Ch l)),(1,.cl 30 [] [.d (.cp false [Ch f,Dm r,.v (.int .i64 s),Ch i])]),(7,iv l.length),(8,iv j)],[],[]⟩) 0 ⟨by omega,rfl⟩ leQ ?_
 rintro j ⟨hi,hal⟩
 by_cases hik:j<l.length
 ·have gi:decide ((j:Int)<l.length)=true:=decide_eq_true (by omega)
  obtain⟨b,hg⟩:∃p,l[j]?=some p:=⟨_,Ak hik⟩
  have hF:=hF b (hl b (Bk hg))
  cases hb:q b
  ·rw[hb] at hF
   obtain⟨q1,q2⟩:=rV q hal hg hb
   rw[show Pr q l=j by unfold Pr;rw[q2,q1];rfl]
   (repeat'((conv=>whnf);first|refine zP ?_|refine Ab ?_|refine NIdx.tab (fun _=>rfl) hg ?_|refine Aa hF B7 ?_|exact zE))
  ·rw[hb] at hF
   (repeat'((conv=>whnf);first|refine zP ?_|refine Ae ?_|refine NIdx.tab (fun _=>rfl) hg ?_|refine Aa hF B7 ?_|(with_reducible refine NInt.i64 ?_)));(all_goals(conv=>whnf))
   refine⟨j+1,⟨by omega,Eo q hg hb hal⟩,by omega,?_⟩
   exact leQ
 ·have gi:decide ((j:Int)<l.length)=false:=decide_eq_false (by omega)
  obtain rfl:j=l.length:=by omega
  rw[List.take_length] at hal
  rw[show Pr q l= -1 by unfold Pr;rw[hal];rfl]
  (repeat'((conv=>whnf);refine zN ?_));(all_goals(conv=>whnf))
  all_goals exact zE
theorem eX (l:List Gn) (p:Pt) (hn:l.length≤1000000) (hl:∀g∈l,g.mid∧gnW g=true) (hpn:p.f.length≤1000000) (hp:∀g∈p.f,g.mid∧gnW g=true):Ac Tryz.prog 29 [.d (Ch l),.cl 30 [] [ptK p]] (fun r=>r=bv (!l.all fun g=>p.f.all fun h=> !(gnE g==gnE h))):=by
 have hI:=eW l p hn hl hpn hp
 rw[←iW]
 refine acQ 9 Tryz.func29 rfl rfl fun _ _ _=> ?_
 (repeat'((conv=>whnf);refine Aa hI B7 ?_));(all_goals(conv=>whnf))
 all_goals exact zE
theorem zA {l m:List Gn} (hl:∀g∈l,g.mid∧gnW g=true) (hm:∀g∈m,g.mid∧gnW g=true):(!l.all fun g=>m.all fun h=> !(gnE g==gnE h))=l.any fun g=>m.any fun h=>decide (g=h):=by
 rw[Bool.eq_iff_iff,Bool.not_eq_true',List.any_eq_true]
 constructor
 ·intro h
  apply Decidable.byContradiction
  intro hn
  have:(l.all fun g=>m.all fun h=> !(gnE g==gnE h))=true:=by
   rw[List.all_eq_true]
   intro g hg
   rw[List.all_eq_true]
   intro k hk
   rw[Bool.not_eq_true',beq_eq_false_iff_ne]
   intro e
   exact hn ⟨g,hg,List.any_eq_true.2 ⟨k,hk,decide_eq_true (yE (hl g hg).2 (hm k hk).2 (hl g hg).1 (hm k hk).1 e)⟩⟩
  rw[this] at h;cases h
 ·rintro⟨g,hg,h⟩
  obtain⟨k,hk,e⟩:=List.any_eq_true.1 h
  obtain rfl:=of_decide_eq_true e
  cases ha:(l.all fun g=>m.all fun h=> !(gnE g==gnE h)) with
  |false=>rfl
  |true=>
   have:=List.all_eq_true.1 (List.all_eq_true.1 ha g hg) g hk
   simp at this
def DJ (x:Iss) (p:Pt):Bool:=if x.r=[] then x.f.any fun g=>p.f.any fun h=>decide (g=h) else decide (x.r=p.r)
def uH (x:Iss) (p:Pt):Bool:=isW x&&(ptW p&&(yY (Lj p.s.toNat) (Lj x.s.toNat)&&(Ib x.f x.r||DJ x p)))
theorem uI {a b:List Att} (ha:Ea a=true) (hb:Ea b=true) (za:rdnZ a) (zb:rdnZ b) (e:C8 a=C8 b):a=b:=by
 have h1:=Nr ha za
 rw[e,Nr hb zb] at h1
 exact(Option.some.inj h1).symm
theorem Xa {f:List Gn} {r:List Att} (h:nmW f r) (hm:nmM f r):∀g∈f,g.mid∧gnW g=true:=fun g hg=>by
 rcases h.1 with h|h
 ·rw[h] at hg;cases hg
 ·exact⟨hm.f.m g hg,List.all_eq_true.1 h.2 g hg⟩
theorem zB (x:Iss) (p:Pt) (hx:x.sm) (hp:p.sm) (hxs:Ny x.s) (hps:Ny p.s):Ac Tryz.prog 9 [diA x,dpA p] (fun r=>r=bv (uH x p)):=by
 have hV:=Us x hx.m hxs
 have hW:=Up p hp.m hps
 unfold uH
 cases h1:isW x
 ·rw[h1] at hV
  clear h1
  refine acQ 62 Tryz.func9 rfl rfl fun _ _ _=> ?_
  (repeat'((conv=>whnf);first|refine Ab ?_|refine Aa hV B7 ?_|refine zF ?_|exact zE))
 rw[h1] at hV
 cases h2:ptW p
 ·rw[h2] at hW
  clear h1 h2
  refine acQ 62 Tryz.func9 rfl rfl fun _ _ _=> ?_
  (repeat'((conv=>whnf);first|refine Ab ?_|refine Ae ?_|refine Aa hV B7 ?_|refine Aa hW B7 ?_|refine zF ?_|exact zE))
 rw[h2] at hW
 obtain⟨x1,x2,-⟩:=Nx.1 h1
 obtain⟨p1,p2,-⟩:=Lf.1 h2
 have hE:=N0 x.f x.r hx.m.f.n (by have:=hx.m.r.l;omega)
 have hC:=eX x.f p hx.m.f.n (Xa x1 hx.m) hp.m.m.f.n (Xa p1 hp.m.m)
 rw[zA (Xa x1 hx.m) (Xa p1 hp.m.m)] at hC
 have hM1:=Hf x.r hx.m.r
 have hM2:=Hf p.r hp.m.m.r
 have l1:(C8 x.r).length≤90000006:=A2 0 17 true (E1 x.r) (by have:(E1 x.r).length≤90000000:=hx.m.r.e;omega)|>fun h=>by have:(E1 x.r).length≤90000000:=hx.m.r.e;show(Ao 0 17 true (E1 x.r)).length≤_;omega
 have l2:(C8 p.r).length≤90000006:=A2 0 17 true (E1 p.r) (by have:(E1 p.r).length≤90000000:=hp.m.m.r.e;omega)|>fun h=>by have:(E1 p.r).length≤90000000:=hp.m.m.r.e;show(Ao 0 17 true (E1 p.r)).length≤_;omega
 have hB:=iV (C8 x.r) (C8 p.r) (by omega) (by omega)
 have hinj:x.r≠[]→p.r≠[]→(C8 x.r==C8 p.r)=decide (x.r=p.r):=fun a b=>by
  rw[Bool.eq_iff_iff,beq_iff_eq,decide_eq_true_iff]
  exact⟨uI (x1.2.resolve_left a) (p1.2.resolve_left b) hx.m.r hp.m.m.r,fun e=>by rw[e]⟩
 have hv1:x.r≠[]→Ea x.r=true:=x1.2.resolve_left
 have hv2:p.r≠[]→Ea p.r=true:=p1.2.resolve_left
 have hxf:x.r≠[]→x.f=[]:=fun a=>by
  rcases x1.1 with h|h
  ·exact h
  ·exact absurd h.1 a
 have n1:=hx.m.r.l
 have n2:=hp.m.m.r.l
 have n3:=hx.m.f.n
 obtain⟨f,r,u,c,n,a,s⟩:=x
 obtain⟨pf,pr,ps,pi⟩:=p
 unfold DJ
 simp only at*
 obtain⟨k,rfl⟩:=Int.eq_ofNat_of_zero_le x2.1
 obtain⟨m,rfl⟩:=Int.eq_ofNat_of_zero_le p2.1
 have hk:k<512:=by have:=x2.2;omega
 have hm:m<512:=by have:=p2.2;omega
 have hA1:=iU m hm
 have hA2:=iU k hk
 rw[Int.toNat_natCast,Int.toNat_natCast]
 have hlt1:=Qd hm
 have hlt2:=Qd hk
 rw[yZ hlt1 hlt2]
 generalize Lj m=A at hA1 hlt1⊢
 generalize Lj k=B at hA2 hlt2⊢
 have hle:=iT (b:=B) hlt1
 have hand:IntKind.i64.wrap ((BitVec.ofInt IntKind.i64.bits (A:Int)&&& ~~~BitVec.ofInt IntKind.i64.bits (B:Int)).toNat:Int)=((W9 A B:Nat):Int):=by
  show IntKind.i64.wrap ((W9 A B:Nat):Int)=_
  exact IntWalk.i64_in _ (by omega)
 generalize W9 A B=dd at hle hand⊢
 clear hx hp hxs hps h1 h2 x1 x2 p1 p2
 by_cases hD:dd=0
 rotate_left
 ·rw[decide_eq_false hD]
  have gD:((dd:Int) !=0)=true:=by rw[bne_iff_ne];omega
  refine acQ 62 Tryz.func9 rfl rfl fun _ _ _=> ?_
  (repeat'((conv=>whnf);first|refine zP ?_|refine Ae ?_|refine Aa hV B7 ?_|refine Aa hW B7 ?_|refine Aa hA1 rfl ?_|refine Aa hA2 rfl ?_|refine NLa.mk ⟨_,N1 rfl rfl (ltN rfl) rfl rfl hand,?_⟩|refine zF ?_|exact zE))
 rw[decide_eq_true hD]
 have gD:((dd:Int) !=0)=false:=by rw[hD];rfl
 clear hD
 cases hem:Ib f r
 rotate_left
 ·rw[hem] at hE
  clear hem
  refine acQ 62 Tryz.func9 rfl rfl fun _ _ _=> ?_
  (repeat'((conv=>whnf);first|refine zN ?_|refine Ab ?_|refine Ae ?_|refine Aa hV B7 ?_|refine Aa hW B7 ?_|refine Aa hA1 rfl ?_|refine Aa hA2 rfl ?_|refine NLa.mk ⟨_,N1 rfl rfl (ltN rfl) rfl rfl hand,?_⟩|refine Aa hE B7 ?_|refine zF ?_|exact zE))
 rw[hem] at hE
 clear hem
 by_cases r0:r=[]
 ·rw[if_pos r0]
  subst r0
  refine acQ 62 Tryz.func9 rfl rfl fun _ _ _=> ?_
  (repeat'((conv=>whnf);first|refine zN ?_|refine Ae ?_|refine Aa hV B7 ?_|refine Aa hW B7 ?_|refine Aa hA1 rfl ?_|refine Aa hA2 rfl ?_|refine NLa.mk ⟨_,N1 rfl rfl (ltN rfl) rfl rfl hand,?_⟩|refine Aa hE B7 ?_|refine Aa hC B7 ?_|refine zF ?_|exact zE))
 ·rw[if_neg r0]
  have gr:=Ov r0
  rw[hv1 r0] at hM1
  have hM1:Ac Tryz.prog 27 [.d (Dm r)] (fun q=>q= .tup [Cg 0 5 (C8 r),iv 0]):=hM1
  by_cases q0:pr=[]
  ·subst q0
   obtain rfl:=hxf r0
   rw[decide_eq_false r0]
   refine acQ 62 Tryz.func9 rfl rfl fun _ _ _=> ?_
   (repeat'((conv=>whnf);first|refine zP ?_|refine zN ?_|refine Ab ?_|refine Ae ?_|refine Aa hV B7 ?_|refine Aa hW B7 ?_|refine Aa hA1 rfl ?_|refine Aa hA2 rfl ?_|refine NLa.mk ⟨_,N1 rfl rfl (ltN rfl) rfl rfl hand,?_⟩|refine Aa hE B7 ?_|refine Aa hC B7 ?_|refine zF ?_|exact zE))
  ·have gq:=Ov q0
   rw[hv2 q0] at hM2
   have hM2:Ac Tryz.prog 27 [.d (Dm pr)] (fun q=>q= .tup [Cg 0 5 (C8 pr),iv 0]):=hM2
   rw[hinj r0 q0] at hB
   generalize C8 r=e1 at hM1 hB
   generalize C8 pr=e2 at hM2 hB
   refine acQ 62 Tryz.func9 rfl rfl fun _ _ _=> ?_
   (repeat'((conv=>whnf);first|refine zP ?_|refine zN ?_|refine Ab ?_|refine Ae ?_|refine Aa hV B7 ?_|refine Aa hW B7 ?_|refine Aa hA1 rfl ?_|refine Aa hA2 rfl ?_|refine NLa.mk ⟨_,N1 rfl rfl (ltN rfl) rfl rfl hand,?_⟩|refine Aa hE B7 ?_|refine Aa hM1 B7 ?_|refine Aa hM2 B7 ?_|refine Aa hB B7 ?_|refine zF ?_|exact zE))
end Go.Proofs.YtaoahmplnckhpaaGreatDoor
