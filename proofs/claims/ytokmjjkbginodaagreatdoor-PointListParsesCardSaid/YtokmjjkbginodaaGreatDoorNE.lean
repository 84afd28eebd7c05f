/- NE: the texts Plr Plq Peq Prf, one behind the other. No condition but what each lemma says. -/
import Derived.Test.YtokmjjkbginodaaGreatDoorND
namespace Go.Proofs.YtokmjjkbginodaaGreatDoor
open Go.RowKit
set_option maxRecDepth 100000
set_option maxHeartbeats 16000000
def QX:Option (List Gn)→AV
 |some l=> .tup [.d (Jo l),bv true]
 |none=> .tup [A4,bv false]
theorem Da {p:Prop} (h:p:=by first|rfl|(simp only[AV.gives,AV.ren,AV.give,D.un,D.uns,An,Ao,List.nil_append,List.append_nil,List.cons_append,Av,A9,Ca,Bn,Bd,B8,Ck,Bw,Bl,Bx,Bf,Ee,Ef,J3,Oa,N9];first|done|rfl)):p:=h
theorem Zn (c:List UInt8) (hl:c.length≤700000):Ab Tryz.prog 43 [.d (Af false c)] (fun r=>r=QX (Fx c)):=by
 have hel:=As 0 16 true c (by omega)
 have hS:=Nw [c] (by simp;omega) (by simp)
 rw[show [c].flatten=c by simp] at hS
 have hL:=gY (Ah 0 16 true c) (by omega)
 unfold Fx
 rcases pU (Ah 0 16 true c) (by omega) with⟨v,v0,v1,v2,v3⟩|⟨a,o,k0,-,k2⟩
 ·rw[v3] at hL⊢
  have hL:Ab Tryz.prog 72 [.d (Af false (Ah 0 16 true c))] (fun r=>r= .tup [.d (Jo v),erA 0 0]):=hL
  generalize Ah 0 16 true c=q at hS hL
  show Ab _ _ _ (fun r=>r= .tup [.d (Jo v),bv true])
  refine acQ 27 Tryz.func43 rfl rfl fun _ _ _=> ?_
  (repeat'((conv=>whnf);first|refine Ac ?_|refine Aa hS Da ?_|refine Aa hL Da ?_|refine zF ?_|exact zE))
 ·rw[k2] at hL⊢
  have hL:Ab Tryz.prog 72 [.d (Af false (Ah 0 16 true c))] (fun r=>r= .tup [A4,erA a o]):=hL
  have ga:((a:Int)==0)=false:=by rw[beq_eq_false_iff_ne];omega
  generalize Ah 0 16 true c=q at hS hL
  show Ab _ _ _ (fun r=>r= .tup [A4,bv false])
  refine acQ 27 Tryz.func43 rfl rfl fun _ _ _=> ?_
  (repeat'((conv=>whnf);first|refine Ac ?_|refine Aa hS Da ?_|refine Aa hL Da ?_|refine zF ?_));(all_goals(conv=>whnf))
  all_goals(refine A7 ?_;(repeat'(first|exact trivial|exact Be _|refine And.intro ?_ ?_|exact rfl));(all_goals(conv=>whnf)))
  all_goals(rw[ga])
def QY:Option Nat→AV
 |some s=> .tup [iv s,bv true]
 |none=> .tup [iv 0,bv false]
theorem JG (c:List UInt8) (hl:c.length≤700000):Ab Tryz.prog 42 [.d (Af false c)] (fun r=>r=QY (Tc c)):=by
 have hD:=mF c (by omega)
 unfold Tc
 cases hd:Q9 c with
 |none=>
  rw[hd] at hD
  show Ab _ _ _ (fun r=>r= .tup [iv 0,bv false])
  refine acQ 18 Tryz.func42 rfl rfl fun _ _ _=> ?_
  (repeat'((conv=>whnf);first|refine Ae ?_|refine Aa hD Da ?_|exact zE))
 |some s=>
  rw[hd] at hD
  by_cases h0:s=0
  ·subst h0
   show Ab _ _ _ (fun r=>r= .tup [iv 0,bv false])
   refine acQ 18 Tryz.func42 rfl rfl fun _ _ _=> ?_
   (repeat'((conv=>whnf);first|refine Ac ?_|refine Aa hD Da ?_|exact zE))
  ·have g0:((s:Int) !=0)=true:=by rw[bne_iff_ne];omega
   have e:(some s).filter (fun s=>s !=0)=some s:=by simp[Option.filter,h0]
   rw[e]
   show Ab _ _ _ (fun r=>r= .tup [iv s,bv true])
   refine acQ 18 Tryz.func42 rfl rfl fun _ _ _=> ?_
   (repeat'((conv=>whnf);first|refine Ac ?_|refine Aa hD Da ?_));(all_goals(conv=>whnf))
   all_goals(refine A7 ?_;(repeat'(first|exact trivial|exact Be _|refine And.intro ?_ ?_|exact rfl));(all_goals(conv=>whnf)))
   all_goals(rw[g0])
theorem iG (c:List UInt8):∃y code off,Bj c=⟨y,code,off⟩∧y.body≤y.stop∧y.stop≤c.length∧((code≠0∧He c=none)∨(code=0∧y.isB 2 0 true=true∧He c=(Fx ((c.drop y.body).take (y.stop-y.body))).map (fun f=> .nm f []))∨(code=0∧y.isB 2 0 true=false∧y.isB 2 1 true=true∧He c=(Je (Ah 0 17 true ((c.drop y.body).take (y.stop-y.body)))).1.map (fun r=> .nm [] r))∨(code=0∧y.isB 2 0 true=false∧y.isB 2 1 true=false∧He c=none)):=by
 have hF:=D9 c
 unfold He By
 generalize Bj c=o at hF⊢
 obtain⟨y,code,off⟩:=o
 refine⟨y,code,off,rfl,hF.2.2.2.2.2.2,hF.2.2.2.2.2.1,?_⟩
 simp only
 by_cases h0:code=0
 ·cases h1:y.isB 2 0 true
  ·cases h2:y.isB 2 1 true
   ·refine .inr (.inr (.inr ⟨h0,rfl,rfl,?_⟩))
    rw[if_pos (.inr rfl)]
   ·refine .inr (.inr (.inl ⟨h0,rfl,rfl,?_⟩))
    rw[if_pos (.inr rfl),if_neg (by simp[h0])]
  ·refine .inr (.inl ⟨h0,rfl,?_⟩)
   rw[if_neg (by simp[h0])]
 ·refine .inl ⟨h0,?_⟩
  rw[if_pos (.inl h0),if_pos (.inl h0)]
def drC (d:Dr):List AV:=[.d (Jo d.f),.d (Jn d.r),iv d.s,.d (Jo d.i),bv (d.fl 0),bv (d.fl 1),bv (d.fl 2),bv (d.fl 3),bv (d.fl 4),bv (d.fl 5)]
abbrev drZ:List AV:=[A4,A4,iv 0,A4,bv false,bv false,bv false,bv false,bv false,bv false]
def drR:Option Dr×Nat×Nat→AV
 |(some d,_)=> .tup [.agg (drC d),erA 0 0]
 |(none,c,o)=> .tup [.agg drZ,erA c o]
structure kdsW (k:List UInt8):Prop where
 n:k.length≤6
 o:∀(n:Nat) (kd:UInt8),k[n]?=some kd→kd=110∨kd=114∨kd=105∨(kd=102∧(n=1∨n=2∨n=4∨n=5))
theorem QZ:kdsW k3:=⟨by simp,fun n kd h=>by
 match n,h with
 |0,h=>exact .inl (Option.some.inj h).symm
 |1,h=>exact .inr (.inl (Option.some.inj h).symm)
 |2,h=>exact .inr (.inr (.inl (Option.some.inj h).symm))
 |n+3,h=>simp at h⟩
theorem vF (k b:List UInt8) (hk:kdsW k) (hb:b.length≤700000):Ab Tryz.prog 18 [sv k,.d (Af false b)] (fun r=>r=drR (rdD b k)):=by
 have hP:=Iv b 0 16 (by omega)
 have hin:=fun x=>D4 (b:=b) (c:=0) (n:=16) (x:=x)
 have hcn:=Jc b 0 16
 have hkn:=hk.n
 unfold rdD
 generalize A6 b 0 16=R at hP hin hcn⊢
 obtain⟨l,rc,ro⟩:=R
 simp only at hin hcn⊢
 by_cases k1:rc≠0
 ·rw[if_pos k1]
  rw[lrA,if_pos k1] at hP
  have gc:((rc:Int) !=0)=true:=by rw[bne_iff_ne];omega
  show Ab _ _ _ (fun r=>r= .tup [.agg drZ,erA rc ro])
  refine acQ 122 Tryz.func18 rfl rfl fun _ _ _=> ?_
  (repeat'((conv=>whnf);first|refine zP ?_|refine Aa hP Da ?_|refine zF ?_|exact zE))
 rw[if_neg k1]
 rw[lrA,if_neg k1] at hP
 generalize hR:drF b k l (-1) dr0=R
 refine acQ 122 Tryz.func18 rfl rfl fun _ _ _=> ?_
 (repeat'((conv=>whnf);first|refine Ae ?_|refine Aa hP Da ?_));(all_goals(conv=>whnf))
 refine Ax (fun z:Nat×Int×Dr=>z.1≤l.length∧drF b k (l.drop z.1) z.2.1 z.2.2=R) (fun z=>l.length-z.1) (fun z=>⟨[(0,sv k),(1,.d (Af false b)),(4,.ptr 4 0),(5,.ptr 5 0),(6,.ptr 6 0),(9,iv z.2.1),(27,.d (eJ l)),(28,iv l.length),(29,iv z.1)],[(4,drZ),(5,[iv 0,iv 0]),(6,drC z.2.2)],[]⟩) (0,-1,dr0) ⟨by simp,hR⟩ leQ ?_
 rintro⟨i,last,d⟩ ⟨hi,he⟩
 simp only at hi he
 by_cases hil:i<l.length
 rotate_left
 ·have gi:decide ((i:Int)<(l.length:Int))=false:=decide_eq_false (by omega)
  rw[List.drop_eq_nil_of_le (by omega)] at he
  have he:(some d,0,0)=R:=he
  subst he
  (repeat'((conv=>whnf);refine zN ?_));(all_goals(conv=>whnf))
  all_goals exact zE
 have gi:decide ((i:Int)<(l.length:Int))=true:=decide_eq_true (by omega)
 obtain⟨x,hg⟩:∃p,l[i]?=some p:=⟨_,Am hil⟩
 have hdr:l.drop i=x::l.drop (i+1):=by
  obtain⟨h1,h2⟩:=Aw.1 hg
  rw[←h2];exact List.drop_eq_getElem_cons h1
 obtain⟨x1,x2,x3⟩:=hin x (A8 hg)
 rw[hdr,drF] at he
 clear hdr hin hR
 obtain⟨xc,xn,xk,xa,xb,xs⟩:=x
 simp only at he x1 x2 x3
 by_cases c1:xc≠2
 ·rw[if_pos (.inl c1)] at he
  subst he
  have g1:((xc:Int) !=2)=true:=by rw[bne_iff_ne];omega
  (repeat'((conv=>whnf);first|refine zP ?_|refine Ac ?_|refine NIdx.tab (fun _=>rfl) hg ?_|refine zF ?_|exact zE))
 have g1:((xc:Int) !=2)=false:=by rw[bne_eq_false_iff_eq];omega
 by_cases c2:k.length≤xn
 ·rw[if_pos (.inr (.inl c2))] at he
  subst he
  have g2:decide ((xn:Int)≥(k.length:Int))=true:=decide_eq_true (by omega)
  (repeat'((conv=>whnf);first|refine zP ?_|refine zN ?_|refine Ac ?_|refine Ae ?_|refine NIdx.tab (fun _=>rfl) hg ?_|refine zF ?_|exact zE))
 have g2:decide ((xn:Int)≥(k.length:Int))=false:=decide_eq_false (by omega)
 by_cases c3:(xn:Int)≤last
 ·rw[if_pos (.inr (.inr c3))] at he
  subst he
  have g3:decide ((xn:Int)≤last)=true:=decide_eq_true c3
  (repeat'((conv=>whnf);first|refine zP ?_|refine zN ?_|refine Ae ?_|refine NIdx.tab (fun _=>rfl) hg ?_|refine zF ?_|exact zE))
 have g3:decide ((xn:Int)≤last)=false:=decide_eq_false c3
 rw[if_neg (by rintro(h|h|h);exact c1 h;exact c2 h;exact c3 h)] at he
 obtain⟨kd,hkd⟩:∃p,k[xn]?=some p:=⟨_,Am (by omega)⟩
 have hgd:k.getD xn 0=kd:=by rw[List.getD_eq_getElem?_getD,hkd];rfl
 have hko:=hk.o xn kd hkd
 rw[hgd] at he
 obtain⟨c,hc⟩:∃c,(b.drop xb).take (xs-xb)=c:=⟨_,rfl⟩
 have hbc:bod b ⟨xc,xn,xk,xa,xb,xs⟩=c:=hc
 have hcl:c.length≤700000:=by rw[←hc,Al,Az];omega
 rw[hbc] at he
 clear hgd hbc c1 c2 c3
 by_cases c4:xk≠IX kd
 ·rw[if_pos c4] at he
  subst he
  rcases hko with rfl|rfl|rfl|⟨rfl,-⟩
  all_goals cases xk
  all_goals first
   |exact absurd rfl c4
   |((repeat'((conv=>whnf);first|refine zP ?_|refine zN ?_|refine Ac ?_|refine Ae ?_|refine NIdx.tab (fun _=>rfl) hg ?_|refine Bc hkd ?_|(refine NSl.bytes xb xs c hc ?_)|refine zF ?_));(all_goals(conv=>whnf))
     all_goals exact zE)
 rw[if_neg c4] at he
 obtain rfl:=Decidable.not_not.1 c4
 clear c4
 rcases hko with rfl|rfl|rfl|⟨rfl,hn4⟩
 ·have e110:vlO 110 c=He c:=rfl
  rw[e110] at he
  clear e110
  obtain⟨y,code,off,hy,y1,y2,hcase⟩:=iG c
  have hO:=Lp c (by omega)
  rw[hy] at hO
  clear hy
  obtain⟨e,hd'⟩:∃e,(c.drop y.body).take (y.stop-y.body)=e:=⟨_,rfl⟩
  have hel:e.length≤700000:=by rw[←hd',Al,Az];omega
  rw[hd'] at hcase
  have hI0:=Rs y 2 0 true
  have hI1:=Rs y 2 1 true
  have hN:=Zn e hel
  have hwl:=As 0 17 true e (by omega)
  have hW:=D3 0 17 true e (by omega) (by omega) (by omega)
  have hRp:=Wi (Ah 0 17 true e) (by omega)
  have hRk:=bH (Ah 0 17 true e)
  generalize Ah 0 17 true e=w at hW hRp hcase hRk hwl
  rcases hcase with⟨h0,hp⟩|⟨rfl,h1,hp⟩|⟨rfl,h1,h2,hp⟩|⟨rfl,h1,h2,hp⟩
  ·rw[hp] at he
   have he:(none,6,xb)=R:=he
   subst he
   have gc:((code:Int) !=0)=true:=by rw[bne_iff_ne];omega
   (repeat'((conv=>whnf);first|refine zP ?_|refine zN ?_|refine Ac ?_|refine Ae ?_|refine NIdx.tab (fun _=>rfl) hg ?_|refine Bc hkd ?_|(refine NSl.bytes xb xs c hc ?_)|(refine NStep.inl 200 70 _ C2 mixed rfl rfl rfl Tryz.func41 rfl (by kernel_rfl) rfl rfl rfl rfl (fun gh=> ?_))|refine Aa hO Da ?_|refine zF ?_|exact zE))
  ·rw[h1] at hI0
   cases hn:Fx e with
   |none=>
    rw[hn] at hp hN
    rw[hp] at he
    have he:(none,6,xb)=R:=he
    subst he
    have hN:Ab Tryz.prog 43 [.d (Af false e)] (fun r=>r= .tup [A4,bv false]):=hN
    (repeat'((conv=>whnf);first|refine zP ?_|refine zN ?_|refine Ac ?_|refine Ae ?_|refine NIdx.tab (fun _=>rfl) hg ?_|refine Bc hkd ?_|(refine NSl.bytes xb xs c hc ?_)|(refine NStep.inl 200 70 _ C2 mixed rfl rfl rfl Tryz.func41 rfl (by kernel_rfl) rfl rfl rfl rfl (fun gh=> ?_))|refine Aa hO Da ?_|refine Aa hI0 rfl ?_|(refine NSl.bytes y.body y.stop e hd' ?_)|refine Aa hN Da ?_|refine Aj (Fy rfl rfl (ltN rfl) rfl) ?_|refine zF ?_|exact zE))
   |some f=>
    obtain⟨f0,-,-⟩:=Pw hn hel
    rw[hn] at hp hN
    rw[hp] at he
    have he:drF b k (l.drop (i+1)) xn (d.set xn (.nm f []))=R:=he
    have hs:d.set xn (.nm f [])={d with f:=f}:=if_neg f0
    rw[hs] at he
    have hN:Ab Tryz.prog 43 [.d (Af false e)] (fun r=>r= .tup [.d (Jo f),bv true]):=hN
    (repeat'((conv=>whnf);first|refine zP ?_|refine zN ?_|refine Ac ?_|refine Ae ?_|refine NIdx.tab (fun _=>rfl) hg ?_|refine Bc hkd ?_|(refine NSl.bytes xb xs c hc ?_)|(refine NStep.inl 200 70 _ C2 mixed rfl rfl rfl Tryz.func41 rfl (by kernel_rfl) rfl rfl rfl rfl (fun gh=> ?_))|refine Aa hO Da ?_|refine Aa hI0 rfl ?_|(refine NSl.bytes y.body y.stop e hd' ?_)|refine Aa hN Da ?_|refine Aj (Fy rfl rfl (ltN rfl) rfl) ?_|(with_reducible refine NInt.i64 ?_)|refine zF ?_));(all_goals(conv=>whnf))
    refine⟨(i+1,xn,{d with f:=f}),⟨by show i+1≤_;omega,he⟩,by show l.length-(i+1)<l.length-i;omega,?_⟩
    exact leQ
  ·rw[h1] at hI0
   rw[h2] at hI1
   cases hn:Je w with
   |mk o p=>
    obtain⟨ec,eo⟩:=p
    rw[hn] at hp hRp hRk
    cases o with
    |none=>
     rw[hp] at he
     have he:(none,6,xb)=R:=he
     subst he
     have k0:ec≠0:=(hRk rfl).1
     have ge:((ec:Int)==0)=false:=by rw[beq_eq_false_iff_ne];omega
     have hRp:Ab Tryz.prog 70 [.d (Af false w)] (fun r=>r= .tup [A4,erA ec eo]):=hRp
     clear hRk
     (repeat'((conv=>whnf);first|refine zP ?_|refine zN ?_|refine Ac ?_|refine Ae ?_|refine NIdx.tab (fun _=>rfl) hg ?_|refine Bc hkd ?_|(refine NSl.bytes xb xs c hc ?_)|(refine NStep.inl 200 70 _ C2 mixed rfl rfl rfl Tryz.func41 rfl (by kernel_rfl) rfl rfl rfl rfl (fun gh=> ?_))|refine Aa hO Da ?_|refine Aa hI0 rfl ?_|refine Aa hI1 rfl ?_|(refine NSl.bytes y.body y.stop e hd' ?_)|refine Aa hW Da ?_|refine Aa hRp Da ?_|refine Aj (Fy rfl rfl (ltN rfl) rfl) ?_|refine zF ?_|(refine Cy (fun hc hcP=> ?_) (fun hc hcP=> ?_)<;>try(exfalso;omega))|exact zE))
    |some r=>
     rw[hp] at he
     have he:drF b k (l.drop (i+1)) xn {d with r:=r}=R:=he
     have hRp:Ab Tryz.prog 70 [.d (Af false w)] (fun q=>q= .tup [.d (Jn r),erA 0 0]):=hRp
     clear hRk
     (repeat'((conv=>whnf);first|refine zP ?_|refine zN ?_|refine Ac ?_|refine Ae ?_|refine NIdx.tab (fun _=>rfl) hg ?_|refine Bc hkd ?_|(refine NSl.bytes xb xs c hc ?_)|(refine NStep.inl 200 70 _ C2 mixed rfl rfl rfl Tryz.func41 rfl (by kernel_rfl) rfl rfl rfl rfl (fun gh=> ?_))|refine Aa hO Da ?_|refine Aa hI0 rfl ?_|refine Aa hI1 rfl ?_|(refine NSl.bytes y.body y.stop e hd' ?_)|refine Aa hW Da ?_|refine Aa hRp Da ?_|refine Aj (Fy rfl rfl (ltN rfl) rfl) ?_|(with_reducible refine NInt.i64 ?_)|refine zF ?_));(all_goals(conv=>whnf))
     refine⟨(i+1,xn,{d with r:=r}),⟨by show i+1≤_;omega,he⟩,by show l.length-(i+1)<l.length-i;omega,?_⟩
     exact leQ
  ·rw[h1] at hI0
   rw[h2] at hI1
   rw[hp] at he
   have he:(none,6,xb)=R:=he
   subst he
   (repeat'((conv=>whnf);first|refine zP ?_|refine zN ?_|refine Ac ?_|refine Ae ?_|refine NIdx.tab (fun _=>rfl) hg ?_|refine Bc hkd ?_|(refine NSl.bytes xb xs c hc ?_)|(refine NStep.inl 200 70 _ C2 mixed rfl rfl rfl Tryz.func41 rfl (by kernel_rfl) rfl rfl rfl rfl (fun gh=> ?_))|refine Aa hO Da ?_|refine Aa hI0 rfl ?_|refine Aa hI1 rfl ?_|refine zF ?_|exact zE))
 ·have hS:=JG c hcl
  have e114:vlO 114 c=(Tc c).map .rs:=rfl
  rw[e114] at he
  clear e114
  cases hn:Tc c with
  |none=>
   rw[hn] at he hS
   have he:(none,6,xb)=R:=he
   subst he
   have hS:Ab Tryz.prog 42 [.d (Af false c)] (fun r=>r= .tup [iv 0,bv false]):=hS
   (repeat'((conv=>whnf);first|refine zP ?_|refine zN ?_|refine Ac ?_|refine Ae ?_|refine NIdx.tab (fun _=>rfl) hg ?_|refine Bc hkd ?_|(refine NSl.bytes xb xs c hc ?_)|refine Aa hS Da ?_|refine zF ?_|exact zE))
  |some s=>
   rw[hn] at he hS
   have he:drF b k (l.drop (i+1)) xn {d with s:=s}=R:=he
   have hS:Ab Tryz.prog 42 [.d (Af false c)] (fun r=>r= .tup [iv s,bv true]):=hS
   (repeat'((conv=>whnf);first|refine zP ?_|refine zN ?_|refine Ac ?_|refine Ae ?_|refine NIdx.tab (fun _=>rfl) hg ?_|refine Bc hkd ?_|(refine NSl.bytes xb xs c hc ?_)|refine Aa hS Da ?_|(with_reducible refine NInt.i64 ?_)|refine zF ?_));(all_goals(conv=>whnf))
   refine⟨(i+1,xn,{d with s:=s}),⟨by show i+1≤_;omega,he⟩,by show l.length-(i+1)<l.length-i;omega,?_⟩
   exact leQ
 ·have hN:=Zn c hcl
  have e105:vlO 105 c=(Fx c).map .is:=rfl
  rw[e105] at he
  clear e105
  cases hn:Fx c with
  |none=>
   rw[hn] at he hN
   have he:(none,6,xb)=R:=he
   subst he
   have hN:Ab Tryz.prog 43 [.d (Af false c)] (fun r=>r= .tup [A4,bv false]):=hN
   (repeat'((conv=>whnf);first|refine zP ?_|refine zN ?_|refine Ac ?_|refine Ae ?_|refine NIdx.tab (fun _=>rfl) hg ?_|refine Bc hkd ?_|(refine NSl.bytes xb xs c hc ?_)|refine Aa hN Da ?_|refine zF ?_|exact zE))
  |some f=>
   rw[hn] at he hN
   have he:drF b k (l.drop (i+1)) xn {d with i:=f}=R:=he
   have hN:Ab Tryz.prog 43 [.d (Af false c)] (fun r=>r= .tup [.d (Jo f),bv true]):=hN
   (repeat'((conv=>whnf);first|refine zP ?_|refine zN ?_|refine Ac ?_|refine Ae ?_|refine NIdx.tab (fun _=>rfl) hg ?_|refine Bc hkd ?_|(refine NSl.bytes xb xs c hc ?_)|refine Aa hN Da ?_|(with_reducible refine NInt.i64 ?_)|refine zF ?_));(all_goals(conv=>whnf))
   refine⟨(i+1,xn,{d with i:=f}),⟨by show i+1≤_;omega,he⟩,by show l.length-(i+1)<l.length-i;omega,?_⟩
   exact leQ
 ·have hB:=CW c (by omega)
  have e102:vlO 102 c=if c=[255] then some .fl else none:=rfl
  rw[e102] at he
  clear e102
  unfold uY at hB
  by_cases c5:c=[255]
  ·rw[if_pos c5] at he hB
   have he:drF b k (l.drop (i+1)) xn {d with fl:=fun m=>m==xn||d.fl m}=R:=he
   rcases hn4 with rfl|rfl|rfl|rfl
   all_goals
    (repeat'((conv=>whnf);first|refine zP ?_|refine zN ?_|refine Ac ?_|refine Ae ?_|refine NIdx.tab (fun _=>rfl) hg ?_|refine Bc hkd ?_|(refine NSl.bytes xb xs c hc ?_)|refine Aa hB Da ?_|(refine Aj (C9 (m:=6) (sz:=1) 1 rfl rfl (ltN rfl) rfl (C2.ty rfl) rfl rfl rfl (by omega)) ?_)|(refine Aj (C9 (m:=6) (sz:=1) 2 rfl rfl (ltN rfl) rfl (C2.ty rfl) rfl rfl rfl (by omega)) ?_)|(refine Aj (C9 (m:=6) (sz:=1) 4 rfl rfl (ltN rfl) rfl (C2.ty rfl) rfl rfl rfl (by omega)) ?_)|(refine Aj (C9 (m:=6) (sz:=1) 5 rfl rfl (ltN rfl) rfl (C2.ty rfl) rfl rfl rfl (by omega)) ?_)|(with_reducible refine NInt.i64 ?_)|refine zF ?_));(all_goals(conv=>whnf))
    refine⟨(i+1,_,_),⟨by show i+1≤_;omega,he⟩,by show l.length-(i+1)<l.length-i;omega,?_⟩
    exact leQ
  ·rw[if_neg c5] at he hB
   have he:(none,6,xb)=R:=he
   subst he
   by_cases c6:c=[0]
   ·rw[if_pos c6] at hB
    rcases hn4 with rfl|rfl|rfl|rfl
    all_goals
     (repeat'((conv=>whnf);first|refine zP ?_|refine zN ?_|refine Ac ?_|refine Ae ?_|refine NIdx.tab (fun _=>rfl) hg ?_|refine Bc hkd ?_|(refine NSl.bytes xb xs c hc ?_)|refine Aa hB Da ?_|(refine Aj (C9 (m:=6) (sz:=1) 1 rfl rfl (ltN rfl) rfl (C2.ty rfl) rfl rfl rfl (by omega)) ?_)|(refine Aj (C9 (m:=6) (sz:=1) 2 rfl rfl (ltN rfl) rfl (C2.ty rfl) rfl rfl rfl (by omega)) ?_)|(refine Aj (C9 (m:=6) (sz:=1) 4 rfl rfl (ltN rfl) rfl (C2.ty rfl) rfl rfl rfl (by omega)) ?_)|(refine Aj (C9 (m:=6) (sz:=1) 5 rfl rfl (ltN rfl) rfl (C2.ty rfl) rfl rfl rfl (by omega)) ?_)|refine zF ?_|exact zE))
   ·rw[if_neg c6] at hB
    rcases hn4 with rfl|rfl|rfl|rfl
    all_goals
     (repeat'((conv=>whnf);first|refine zP ?_|refine zN ?_|refine Ac ?_|refine Ae ?_|refine NIdx.tab (fun _=>rfl) hg ?_|refine Bc hkd ?_|(refine NSl.bytes xb xs c hc ?_)|refine Aa hB Da ?_|(refine Aj (C9 (m:=6) (sz:=1) 1 rfl rfl (ltN rfl) rfl (C2.ty rfl) rfl rfl rfl (by omega)) ?_)|(refine Aj (C9 (m:=6) (sz:=1) 2 rfl rfl (ltN rfl) rfl (C2.ty rfl) rfl rfl rfl (by omega)) ?_)|(refine Aj (C9 (m:=6) (sz:=1) 4 rfl rfl (ltN rfl) rfl (C2.ty rfl) rfl rfl rfl (by omega)) ?_)|(refine Aj (C9 (m:=6) (sz:=1) 5 rfl rfl (ltN rfl) rfl (C2.ty rfl) rfl rfl rfl (by omega)) ?_)|refine zF ?_|exact zE))
abbrev ptQ (p:Pt):AV:= .agg [.d (Jo p.f),.d (Jn p.r),iv p.s,.d (Jo p.i)]
abbrev ptZ:AV:= .agg [A4,A4,iv 0,A4]
def ptR:Option Pt×Nat×Nat→AV
 |(some p,_)=> .tup [ptQ p,erA 0 0]
 |(none,c,o)=> .tup [ptZ,erA c o]
theorem mX {p:Prop} (h:p:=by first|rfl|(simp only[AV.gives,AV.ren,AV.give,D.un,D.uns,An,Ao,List.nil_append,List.append_nil,List.cons_append,Av,A9,Ca,Bn,Bd,B8,Ck,Bw,Bl,Bx,Bf,Ee,Ef,J3,Oa,N9];first|done|rfl)):p:=h
theorem DC {p:Prop} (h:p:=by((try simp only[AV.gives,AV.ren,AV.give,D.un,D.uns,An,Ao,List.nil_append,List.append_nil,List.cons_append,Av,A9,Ca,Bn,Bd,B8,Ck,Bw,Bl,Bx,Bf,Ee,Ef,J3,Oa,N9]);(repeat'(first|exact trivial|exact Be _|refine And.intro ?_ ?_|exact rfl|exact Or.inr rfl|exact Or.inl rfl|exact Or.inl (by rfl)|omega|refine Or.inr ?_));first|done|fail)):p:=h
theorem Zo (b:List UInt8) (hb:b.length≤399000):Ab Tryz.prog 6 [.d (Af false b)] (fun r=>r=ptR (ptP b)):=by
 have hK:=vF k3 b QZ (by omega)
 unfold ptP
 rcases qI (k:=k3) (b:=b) (by omega) KA with⟨d,⟨vs,w1,w2,w3,w4⟩,w5⟩|⟨c,o,h1,h2,h3⟩
 ·rw[w5] at hK⊢
  obtain⟨p,rfl,q1,q2,q3⟩:=KB w1 w2
  have hd:iC d=p:=by rw[w4];exact cA q1 q2
  have hs:p.sm:=Zl q1 q3 (by show(vsE (Hf p)).length≤_;rw[←w3];exact hb)
  have hV:=Sg p hs.m (mV q2)
  clear w5 w4 w3 w2 w1 hs q1 q2 q3
  subst hd
  show Ab _ _ _ (fun r=>r=ptR (if ptW (iC d)=true then(some (iC d),0,0) else(none,6,0)))
  obtain⟨f,r,s,i,fl⟩:=d
  have hK:Ab Tryz.prog 18 [sv k3,.d (Af false b)] (fun q=>q= .tup [.agg [.d (Jo f),.d (Jn r),iv s,.d (Jo i),bv (fl 0),bv (fl 1),bv (fl 2),bv (fl 3),bv (fl 4),bv (fl 5)],erA 0 0]):=hK
  have hdr:iC ⟨f,r,s,i,fl⟩=⟨f,r,s,i⟩:=rfl
  rw[hdr] at hV⊢
  cases hw:ptW ⟨f,r,s,i⟩
  ·rw[hw] at hV
   rw[if_neg (by simp)]
   clear hw
   refine acQ 35 Tryz.func6 rfl rfl fun _ _ _=> ?_
   (repeat'((conv=>whnf);first|refine Ac ?_|refine Ae ?_|refine Aa hK mX ?_|refine Bk hV DC ?_|exact zE))
  ·rw[hw] at hV
   rw[if_pos rfl]
   clear hw
   refine acQ 35 Tryz.func6 rfl rfl fun _ _ _=> ?_
   (repeat'((conv=>whnf);first|refine Ae ?_|refine Aa hK mX ?_|refine Bk hV DC ?_|exact zE))
 ·rw[h3] at hK⊢
  have gc:((c:Int) !=0)=true:=by rw[bne_iff_ne];omega
  have hK:Ab Tryz.prog 18 [sv k3,.d (Af false b)] (fun q=>q= .tup [.agg drZ,erA c o]):=hK
  show Ab _ _ _ (fun r=>r= .tup [ptZ,erA c o])
  refine acQ 35 Tryz.func6 rfl rfl fun _ _ _=> ?_
  (repeat'((conv=>whnf);first|refine zP ?_|refine Aa hK mX ?_|refine zF ?_|exact zE))
structure nmEq (f:List Gn) (r:List Att):Prop where
 f:f.length≤1000000∧∀g∈f,g.eqs
 r:r.length≤1000000∧∀g∈r,g.eqs
structure Pt.eqs (p:Pt):Prop where
 m:nmEq p.f p.r
 i:p.i.length≤1000000∧∀g∈p.i,g.eqs
theorem PY (a b:Pt):decide (a=b)=(decide (a.f=b.f)&&(decide (a.r=b.r)&&((a.s==b.s)&&decide (a.i=b.i)))):=by
 obtain⟨a1,a2,a3,a4⟩:=a;obtain⟨b1,b2,b3,b4⟩:=b
 rw[Bool.eq_iff_iff];simp
theorem Kj {p:Prop} (h:p:=by first|rfl|(simp only[AV.gives,AV.ren,AV.give,D.un,D.uns,An,Ao,List.nil_append,List.append_nil,List.cons_append,Av,A9,Ca,Bn,Bd,B8,Ck,Bw,Bl,Bx,Bf];first|done|rfl)):p:=h
theorem mY (a b:Pt) (ha:a.eqs) (hb:b.eqs):Ab Tryz.prog 10 [dpA a,dpA b] (fun r=>r=bv (decide (a=b))):=by
 have h1:=Q4 a.f b.f ha.m.f hb.m.f
 have h2:=pL a.r b.r ha.m.r hb.m.r
 have h3:=Q4 a.i b.i ha.i hb.i
 rw[PY]
 obtain⟨a1,a2,a3,a4⟩:=a;obtain⟨b1,b2,b3,b4⟩:=b
 simp only at h1 h2 h3⊢
 generalize decide (a1=b1)=q1 at h1⊢
 generalize decide (a2=b2)=q2 at h2⊢
 generalize decide (a4=b4)=q4 at h3⊢
 cases q1
 ·refine acQ 31 Tryz.func10 rfl rfl fun _ _ _=> ?_
  (repeat'((conv=>whnf);first|refine Ae ?_|refine Aa h1 Kj ?_|exact zE))
 cases q2
 ·refine acQ 31 Tryz.func10 rfl rfl fun _ _ _=> ?_
  (repeat'((conv=>whnf);first|refine Ac ?_|refine Ae ?_|refine Aa h1 Kj ?_|refine Aa h2 Kj ?_|exact zE))
 cases g:(a3==b3)
 ·refine acQ 31 Tryz.func10 rfl rfl fun _ _ _=> ?_
  (repeat'((conv=>whnf);first|refine zN ?_|refine Ac ?_|refine Ae ?_|refine Aa h1 Kj ?_|refine Aa h2 Kj ?_|exact zE))
 ·refine acQ 31 Tryz.func10 rfl rfl fun _ _ _=> ?_
  (repeat'((conv=>whnf);first|refine zP ?_|refine Ac ?_|refine Aa h1 Kj ?_|refine Aa h2 Kj ?_|refine Aa h3 Kj ?_|exact zE))
def ptC (p:Pt):List D:=[Gy p.f,Hh p.r,.v (.int .i64 p.s),Gy p.i]
def Kk (l:List Pt):D:=Fb false 4 ptC l
theorem qU (a b:List Pt) (ha:a.length≤1000000∧∀p∈a,p.eqs) (hb:b.length≤1000000∧∀p∈b,p.eqs):Ab Tryz.prog 13 [.d (Kk a),.d (Kk b)] (fun r=>r=bv (decide (a=b))):=by
 obtain⟨ha,hpa⟩:=ha
 obtain⟨hb,hpb⟩:=hb
 refine acQ 33 Tryz.func13 rfl rfl fun _ _ _=> ?_
 (all_goals(conv=>whnf))
 refine Ax (fun i:Nat=>i≤a.length∧i≤b.length∧a.take i=b.take i) (fun i=>a.length-i) (fun i=>⟨[(0,.d (Kk a)),(1,.d (Kk b)),(5,iv i)],[],[]⟩) 0 ⟨by omega,by omega,rfl⟩ leQ ?_
 rintro i ⟨hi,hj,ht⟩
 by_cases hik:i<a.length∧i<b.length
 ·obtain⟨k1,k2⟩:=hik
  have g1:decide ((i:Int)<a.length)=true:=decide_eq_true (by omega)
  have g2:decide ((i:Int)<b.length)=true:=decide_eq_true (by omega)
  obtain⟨x,hx⟩:∃p,a[i]?=some p:=⟨_,Am k1⟩
  obtain⟨y,hy⟩:∃p,b[i]?=some p:=⟨_,Am k2⟩
  have hB:=mY x y (hpa x (A8 hx)) (hpb y (A8 hy))
  by_cases hq:x=y
  ·rw[decide_eq_true hq] at hB
   (repeat'((conv=>whnf);first|refine zP ?_|refine Ac ?_|refine Ae ?_|refine NIdx.tab (fun _=>rfl) hx ?_|refine NIdx.tab (fun _=>rfl) hy ?_|refine Aa hB Kj ?_|(with_reducible refine NInt.i64 ?_)|refine zF ?_));(all_goals(conv=>whnf))
   refine⟨i+1,⟨by omega,by omega,Tx ht hx (hq▸hy)⟩,by omega,?_⟩
   exact leQ
  ·rw[decide_eq_false hq] at hB
   rw[decide_eq_false (oV hx hy hq)]
   (repeat'((conv=>whnf);first|refine zP ?_|refine Ac ?_|refine NIdx.tab (fun _=>rfl) hx ?_|refine NIdx.tab (fun _=>rfl) hy ?_|refine Aa hB Kj ?_|refine zF ?_|exact zE))
 ·by_cases he:a.length=b.length
  ·have:=bB ht hik hi hj he
   subst this
   have g1:decide ((i:Int)<a.length)=false:=decide_eq_false (by omega)
   rw[decide_eq_true rfl]
   (repeat'((conv=>whnf);first|refine zN ?_|refine Ae ?_));(all_goals(conv=>whnf))
   all_goals(refine A7 ?_;(repeat'(first|refine And.intro ?_ ?_|exact rfl));(all_goals(conv=>whnf)))
   all_goals simp
  ·rw[decide_eq_false (fun e=>he (by rw[e]))]
   have g3:((a.length:Int)==b.length)=false:=by rw[beq_eq_false_iff_ne];omega
   by_cases k1:i<a.length
   ·have g1:decide ((i:Int)<a.length)=true:=decide_eq_true (by omega)
    have g2:decide ((i:Int)<b.length)=false:=decide_eq_false (by omega)
    (repeat'((conv=>whnf);first|refine zP ?_|refine zN ?_|refine Ac ?_));(all_goals(conv=>whnf))
    all_goals(refine A7 ?_;(repeat'(first|refine And.intro ?_ ?_|exact rfl));(all_goals(conv=>whnf)))
    all_goals exact g3
   ·have g1:decide ((i:Int)<a.length)=false:=decide_eq_false (by omega)
    (repeat'((conv=>whnf);first|refine zN ?_|refine Ae ?_));(all_goals(conv=>whnf))
    all_goals(refine A7 ?_;(repeat'(first|refine And.intro ?_ ?_|exact rfl));(all_goals(conv=>whnf)))
    all_goals exact g3
theorem Kl {p:Prop} (h:p:=by first|rfl|(simp only[AV.gives,AV.ren,AV.give,D.un,D.uns,An,Ao,List.nil_append,List.append_nil,List.cons_append,AV.frz,AV.frzs,Av,A9,Ca,Bn,Bd,B8,Ck,Bw,Bl,Bx,Bf];first|done|rfl)):p:=h
theorem mZ (f:List Gn) (r:List Att) (s:Int) (hf:gnsZ f) (hr:rdnZ r):Ab Tryz.prog 92 [.d (Gy f),.d (Hh r),iv s] (fun q=>q=bv (plV f r s)):=by
 have hL:=Zd f hf
 have hR:=R8 r hr
 have hfn:=hf.n
 have hrl:=hr.l
 by_cases s0:s<0
 ·have g0:decide (s<0)=true:=decide_eq_true s0
  have e:plV f r s=false:=decide_eq_false fun h=>by have:=h.2.1;omega
  rw[e]
  refine acQ 30 Tryz.func92 rfl rfl fun _ _ _=> ?_
  (repeat'((conv=>whnf);first|refine zP ?_|refine Ac ?_|exact zE))
 have g0:decide (s<0)=false:=decide_eq_false s0
 by_cases s1:s>511
 ·have g1:decide (s>511)=true:=decide_eq_true s1
  have e:plV f r s=false:=decide_eq_false fun h=>by have:=h.2.2;omega
  rw[e]
  refine acQ 30 Tryz.func92 rfl rfl fun _ _ _=> ?_
  (repeat'((conv=>whnf);first|refine zP ?_|refine zN ?_|refine Ae ?_|exact zE))
 have g1:decide (s>511)=false:=decide_eq_false s1
 have e:plV f r s=decide (nmW f r):=by
  unfold plV
  rw[Bool.eq_iff_iff,decide_eq_true_iff,decide_eq_true_iff]
  exact⟨fun a=>a.1,fun a=>⟨a,by unfold rsW;omega⟩⟩
 rw[e]
 rcases iF f r with⟨rfl,rfl,hw⟩|⟨rfl,h0,hv,hw⟩|⟨rfl,h0,hv,hw⟩|⟨h1,rfl,hv,hw⟩|⟨h1,rfl,hv,hw⟩|⟨h1,h0,hw⟩
 all_goals first|rw[decide_eq_true hw]|rw[decide_eq_false hw]
 all_goals
  first|have g2:=Rc h0|skip
  first|have g3:=Rc h1|skip
  first|rw[hv] at hR|rw[hv] at hL|skip
  refine acQ 30 Tryz.func92 rfl rfl fun _ _ _=> ?_
  (repeat'((conv=>whnf);first|refine zN ?_|refine Ac ?_|refine Ae ?_|refine Aa hR Kl ?_|refine Aa hL Kl ?_|exact zE))
theorem iH (p:Pt) (h:p.z):Ab Tryz.prog 58 [dpA p] (fun q=>q=bv (ptW p)):=by
 have hN:=mZ p.f p.r p.s h.m.f h.m.r
 have hG:=Zd p.i h.i
 have n1:=h.m.f.n
 have n2:=h.m.r.l
 have n3:=h.i.n
 rw[mT]
 obtain⟨f,r,s,i⟩:=p
 simp only at hN hG n1 n2 n3⊢
 clear h
 generalize plV f r s=w at hN⊢
 have hk:(f=[]∧r=[]∧Lh f r=true)∨(f=[]∧r≠[]∧Lh f r=false)∨(f≠[]∧Lh f r=false):=by
  by_cases f0:f=[]
  ·by_cases r0:r=[]
   ·exact .inl ⟨f0,r0,by rw[f0,r0];rfl⟩
   ·exact .inr (.inl ⟨f0,r0,Jk.2 (.inr r0)⟩)
  ·exact .inr (.inr ⟨f0,Jk.2 (.inl f0)⟩)
 by_cases i0:i=[]
 ·subst i0
  rcases hk with⟨rfl,rfl,e⟩|⟨rfl,r0,e⟩|⟨f0,e⟩
  all_goals rw[e]
  all_goals first|have g2:=Rc f0|have g1:=Rc r0|skip
  all_goals cases w
  all_goals
   refine acQ 37 Tryz.func58 rfl rfl fun _ _ _=> ?_
   (repeat'((conv=>whnf);first|refine zN ?_|refine Ac ?_|refine Ae ?_|refine Aa hN Kl ?_|exact zE))
 ·have g3:=Rc i0
  rw[show i.isEmpty=false from List.isEmpty_eq_false_iff.2 i0]
  cases hw:Nc i
  all_goals rw[hw] at hG
  all_goals clear hw
  all_goals rcases hk with⟨rfl,rfl,e⟩|⟨rfl,r0,e⟩|⟨f0,e⟩
  all_goals rw[e]
  all_goals first|have g2:=Rc f0|have g1:=Rc r0|skip
  all_goals cases w
  all_goals
   refine acQ 37 Tryz.func58 rfl rfl fun _ _ _=> ?_
   (repeat'((conv=>whnf);first|refine zN ?_|refine Ac ?_|refine Ae ?_|refine Aa hN Kl ?_|refine Aa hG Kl ?_|exact zE))
def plO (l:List (List UInt8)):AV:=if l=[] then A4 else Bx 0 1 22 Dn l
theorem DD (r:List UInt8):∃y,(Ah 0 17 true r)[0]?=some y∧(Ah 0 17 true r).set 0 161=Ah 2 1 true r∧0<(Ah 0 17 true r).length:=⟨49,rfl,rfl,Nat.succ_pos _⟩
def cJ (f:List Gn) (r:List Att):List (List UInt8):=if f≠[]∨r≠[] then [Ah 2 0 true (nmC f r)] else []
theorem vG (f:List Gn) (r:List Att) (hf:gnsZ f) (hr:rdnZ r) (hw:nmW f r):Ab Tryz.prog 59 [.d (Gy f),.d (Hh r)] (fun q=>q=plO (cJ f r)):=by
 have hfe:(Bm f).length≤90000000:=hf.e
 have hre:(Dj r).length≤90000000:=hr.e
 have hfn:=hf.n
 have hrl:=hr.l
 have k1:=As 2 0 true (Bm f) (by omega)
 have k2:=As 2 1 true (Dj r) (by omega)
 by_cases f0:f=[]
 ·subst f0
  by_cases r0:r=[]
  ·subst r0
   show Ab _ _ _ (fun q=>q=A4)
   refine acQ 27 Tryz.func59 rfl rfl fun _ _ _=> ?_
   (repeat'((conv=>whnf);refine Ae ?_));(all_goals(conv=>whnf))
   all_goals exact zE
  ·have hR:=Za r hr
   rw[hw.2.resolve_left r0] at hR
   have hR:Ab Tryz.prog 95 [.d (Hh r)] (fun q=>q= .tup [Bb 0 5 (Ah 0 17 true (Dj r)),iv 0]):=hR
   obtain⟨y,y1,y2,y3⟩:=DD (Dj r)
   have hP:Ab Tryz.prog 94 [cv 160,.d (Af false (Ah 2 1 true (Dj r)))] (fun q=>q=Bb 0 5 (Ah 2 0 true (Ah 2 1 true (Dj r)))):=Dc 160 _ (by omega)
   have e:plO (cJ [] r)=Bx 0 1 22 Dn [Ah 2 0 true (Ah 2 1 true (Dj r))]:=by
    unfold cJ nmC
    rw[if_pos (.inr r0),if_pos rfl];rfl
   rw[e]
   have g1:=Rb r0
   generalize Ah 2 0 true (Ah 2 1 true (Dj r))=R at hP⊢
   rw[←y2] at hP
   generalize Ah 0 17 true (Dj r)=b at hR y1 y3 hP
   clear hw e y2
   have hbl:(b.set 0 161).length=b.length:=List.length_set
   refine acX 27 [95] Tryz.func59 rfl rfl fun _ _ _=> ?_
   (repeat'((conv=>whnf);first|refine zP ?_|refine Ae ?_|refine Su (hR) (y3) rfl rfl rfl (ltN rfl) 2000 rfl rfl rfl Kl ?_|refine Aj (Hr 0 rfl rfl (ltN rfl) Tryz.underlying22 tyB rfl rfl rfl y3) ?_|refine Aj (Fu (b:=161) rfl rfl rfl rfl rfl y3) ?_|refine kU 5 24 2000 _ (hbl.symm) rfl rfl rfl ?_|refine NStep.call (hP) rfl rfl (ltN rfl) 3000 rfl rfl rfl Kl ?_|exact zE))
 ·obtain⟨rfl,ha⟩:=hw.1.resolve_left f0
  have hT:Ab Tryz.prog 61 [cv 160,.d (Gy f)] (fun q=>q=Bb 0 5 (Ah 2 0 true (Bm f))):=gV 160 f hf ha
  have hP:Ab Tryz.prog 94 [cv 160,.d (Af false (Ah 2 0 true (Bm f)))] (fun q=>q=Bb 0 5 (Ah 2 0 true (Ah 2 0 true (Bm f)))):=Dc 160 _ (by omega)
  have e:plO (cJ f [])=Bx 0 1 22 Dn [Ah 2 0 true (Ah 2 0 true (Bm f))]:=by
   unfold cJ nmC
   rw[if_pos (.inl f0),if_neg f0];rfl
  rw[e]
  have g1:=Rb f0
  generalize Ah 2 0 true (Ah 2 0 true (Bm f))=R at hP⊢
  generalize Ah 2 0 true (Bm f)=q at hT hP
  clear hw e
  refine acQ 27 Tryz.func59 rfl rfl fun _ _ _=> ?_
  (repeat'((conv=>whnf);first|refine zP ?_|refine Aa hT Kl ?_|refine Aa hP Kl ?_|exact zE))
def rsP (n s:Nat):List (List UInt8):=if(s:Int)≠0 then [Ah 2 n false (Dd s)] else []
theorem DE (n s:Nat) (x:UInt8) (hs:s<512) (hx:Kb x (Dd s)=Ah 2 n false (Dd s)):Ab Tryz.prog 60 [cv x.toNat,iv s] (fun q=>q=plO (rsP n s)):=by
 have hB:=W7 s hs
 have hq:=E1 s
 have hP:=Dc x (Dd s) (by omega)
 rw[hx] at hP
 by_cases h0:s=0
 ·subst h0
  show Ab _ _ _ (fun q=>q=A4)
  refine acQ 18 Tryz.func60 rfl rfl fun _ _ _=> ?_
  (repeat'((conv=>whnf);refine Ac ?_));(all_goals(conv=>whnf))
  all_goals exact zE
 ·have g0:((s:Int)==0)=false:=by rw[beq_eq_false_iff_ne];omega
  have e:plO (rsP n s)=Bx 0 1 22 Dn [Ah 2 n false (Dd s)]:=by
   unfold rsP
   rw[if_pos (by omega)];rfl
  rw[e]
  clear e hx hq
  generalize Ah 2 n false (Dd s)=R at hP⊢
  generalize Dd s=c at hB hP
  refine acQ 18 Tryz.func60 rfl rfl fun _ _ _=> ?_
  (repeat'((conv=>whnf);first|refine zN ?_|refine Aa hB rfl ?_|refine Aa hP Kl ?_|exact zE))
end Go.Proofs.YtokmjjkbginodaaGreatDoor
