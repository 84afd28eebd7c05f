/- NE: the texts Plr Plq Peq Prf, one behind the other. No condition but what each lemma says. -/
import Derived.Test.YtgpaehhbdbgeaaaGreatDoorNB
import Derived.Test.YtgpaehhbdbgeaaaGreatDoorNA
import Derived.Test.YtgpaehhbdbgeaaaGreatDoorMC
import Derived.Test.YtgpaehhbdbgeaaaGreatDoorMT
import Derived.Test.YtgpaehhbdbgeaaaGreatDoorND
import Derived.Test.YtgpaehhbdbgeaaaGreatDoorMR
import Derived.Test.YtgpaehhbdbgeaaaGreatDoorMS
namespace Go.Proofs.YtgpaehhbdbgeaaaGreatDoor
open Go.RowKit
set_option maxRecDepth 100000
set_option maxHeartbeats 16000000
def BY:Option (List Gn)→AV
 |some l=> .tup [.d (Km l),bv true]
 |none=> .tup [Ay,bv false]
theorem Bp {p:Prop} (h:p:=by first|rfl|(simp only[AV.gives,AV.ren,AV.give,D.un,D.uns,Ag,Ai,List.nil_append,List.append_nil,List.cons_append,Al,A3,Bz,Bd,Aw,Bt,Cd,Ce,Bg,Dk,Bk,Dq,Ds,G7,Mv,Mt];first|done|rfl)):p:=h
theorem T5 (c:List UInt8) (hl:c.length≤700000):Ab Tryz.prog 112 [.d (Ac false c)] (fun r=>r=BY (Do c)):=by
 have hel:=Ao 0 16 true c (by omega)
 have hS:=L4 [c] (by simp;omega) (by simp)
 rw[show [c].flatten=c by simp] at hS
 have hL:=Y4 (Ae 0 16 true c) (by omega)
 unfold Do
 rcases fR (Ae 0 16 true c) (by omega) with⟨v,v0,v1,v2,v3⟩|⟨a,o,k0,-,k2⟩
 ·rw[v3] at hL⊢
  have hL:Ab Tryz.prog 153 [.d (Ac false (Ae 0 16 true c))] (fun r=>r= .tup [.d (Km v),erA 0 0]):=hL
  generalize Ae 0 16 true c=q at hS hL
  show Ab _ _ _ (fun r=>r= .tup [.d (Km v),bv true])
  refine acQ 27 Tryz.func112 rfl rfl fun _ _ _=> ?_
  (repeat'((conv=>whnf);first|refine NBr.yes ?_|refine NCall.eq hS Bp ?_|refine NCall.eq hL Bp ?_|refine NFact.go ⟨by decide+kernel,by kernel_rfl⟩ ?_));(all_goals(conv=>whnf))
  all_goals exact NEnd.eq leQ
 ·rw[k2] at hL⊢
  have hL:Ab Tryz.prog 153 [.d (Ac false (Ae 0 16 true c))] (fun r=>r= .tup [Ay,erA a o]):=hL
  have ga:((a:Int)==0)=false:=by rw[beq_eq_false_iff_ne];omega
  generalize Ae 0 16 true c=q at hS hL
  show Ab _ _ _ (fun r=>r= .tup [Ay,bv false])
  refine acQ 27 Tryz.func112 rfl rfl fun _ _ _=> ?_
  (repeat'((conv=>whnf);first|refine NBr.yes ?_|refine NCall.eq hS Bp ?_|refine NCall.eq hL Bp ?_|refine NFact.go ⟨by decide+kernel,by kernel_rfl⟩ ?_));(all_goals(conv=>whnf))
  all_goals(refine NEnd.eq ?_;(repeat'(first|exact trivial|exact B8 _|refine And.intro ?_ ?_|exact rfl));(all_goals(conv=>whnf)))
  all_goals(rw[ga])
def BZ:Option Nat→AV
 |some s=> .tup [iv s,bv true]
 |none=> .tup [iv 0,bv false]
theorem vY (c:List UInt8) (hl:c.length≤700000):Ab Tryz.prog 111 [.d (Ac false c)] (fun r=>r=BZ (Oz c)):=by
 have hD:=cQ c (by omega)
 unfold Oz
 cases hd:Mx c with
 |none=>
  rw[hd] at hD
  show Ab _ _ _ (fun r=>r= .tup [iv 0,bv false])
  refine acQ 18 Tryz.func111 rfl rfl fun _ _ _=> ?_
  (repeat'((conv=>whnf);first|refine NBr.no ?_|refine NCall.eq hD Bp ?_));(all_goals(conv=>whnf))
  all_goals exact NEnd.eq leQ
 |some s=>
  rw[hd] at hD
  by_cases h0:s=0
  ·subst h0
   show Ab _ _ _ (fun r=>r= .tup [iv 0,bv false])
   refine acQ 18 Tryz.func111 rfl rfl fun _ _ _=> ?_
   (repeat'((conv=>whnf);first|refine NBr.yes ?_|refine NCall.eq hD Bp ?_));(all_goals(conv=>whnf))
   all_goals exact NEnd.eq leQ
  ·have g0:((s:Int) !=0)=true:=by rw[bne_iff_ne];omega
   have e:(some s).filter (fun s=>s !=0)=some s:=by simp[Option.filter,h0]
   rw[e]
   show Ab _ _ _ (fun r=>r= .tup [iv s,bv true])
   refine acQ 18 Tryz.func111 rfl rfl fun _ _ _=> ?_
   (repeat'((conv=>whnf);first|refine NBr.yes ?_|refine NCall.eq hD Bp ?_));(all_goals(conv=>whnf))
   all_goals(refine NEnd.eq ?_;(repeat'(first|exact trivial|exact B8 _|refine And.intro ?_ ?_|exact rfl));(all_goals(conv=>whnf)))
   all_goals(rw[g0])
theorem Za (c:List UInt8):∃y code off,Ap c=⟨y,code,off⟩∧y.body≤y.stop∧y.stop≤c.length∧((code≠0∧E1 c=none)∨(code=0∧y.isB 2 0 true=true∧E1 c=(Do ((c.drop y.body).take (y.stop-y.body))).map (fun f=> .nm f []))∨(code=0∧y.isB 2 0 true=false∧y.isB 2 1 true=true∧E1 c=(Gt (Ae 0 17 true ((c.drop y.body).take (y.stop-y.body)))).1.map (fun r=> .nm [] r))∨(code=0∧y.isB 2 0 true=false∧y.isB 2 1 true=false∧E1 c=none)):=by
 have hF:=Cm c
 unfold E1 Av
 generalize Ap c=o at hF⊢
 obtain⟨y,code,off⟩:=o
 refine⟨y,code,off,rfl,hF.2.2.2.2.2.2,hF.2.2.2.2.2.1,?_⟩
 simp only
 by_cases h0:code=0
 ·cases h1:y.isB 2 0 true
  ·cases h2:y.isB 2 1 true
   ·refine .inr (.inr (.inr ⟨h0,rfl,rfl,?_⟩))
    rw[if_pos (.inr rfl)]
   ·refine .inr (.inr (.inl ⟨h0,rfl,rfl,?_⟩))
    rw[if_pos (.inr rfl),if_neg (by simp[h0])]
  ·refine .inr (.inl ⟨h0,rfl,?_⟩)
   rw[if_neg (by simp[h0])]
 ·refine .inl ⟨h0,?_⟩
  rw[if_pos (.inl h0),if_pos (.inl h0)]
def drC (d:Dr):List AV:=[.d (Km d.f),.d (Rj d.r),iv d.s,.d (Km d.i),bv (d.fl 0),bv (d.fl 1),bv (d.fl 2),bv (d.fl 3),bv (d.fl 4),bv (d.fl 5)]
abbrev drZ:List AV:=[Ay,Ay,iv 0,Ay,bv false,bv false,bv false,bv false,bv false,bv false]
def drR:Option Dr×Nat×Nat→AV
 |(some d,_)=> .tup [.agg (drC d),erA 0 0]
 |(none,c,o)=> .tup [.agg drZ,erA c o]
structure kdsW (k:List UInt8):Prop where
 n:k.length≤6
 o:∀(n:Nat) (kd:UInt8),k[n]?=some kd→kd=110∨kd=114∨kd=105∨(kd=102∧(n=1∨n=2∨n=4∨n=5))
theorem CA:kdsW k3:=⟨by simp,fun n kd h=>by
 match n,h with
 |0,h=>exact .inl (Option.some.inj h).symm
 |1,h=>exact .inr (.inl (Option.some.inj h).symm)
 |2,h=>exact .inr (.inr (.inl (Option.some.inj h).symm))
 |n+3,h=>simp at h⟩
theorem CB:kdsW k6:=⟨by simp,fun n kd h=>by
 match n,h with
 |0,h=>exact .inl (Option.some.inj h).symm
 |1,h=>exact .inr (.inr (.inr ⟨(Option.some.inj h).symm,by omega⟩))
 |2,h=>exact .inr (.inr (.inr ⟨(Option.some.inj h).symm,by omega⟩))
 |3,h=>exact .inr (.inl (Option.some.inj h).symm)
 |4,h=>exact .inr (.inr (.inr ⟨(Option.some.inj h).symm,by omega⟩))
 |5,h=>exact .inr (.inr (.inr ⟨(Option.some.inj h).symm,by omega⟩))
 |n+6,h=>simp at h⟩
theorem T6 (k b:List UInt8) (hk:kdsW k) (hb:b.length≤700000):Ab Tryz.prog 72 [sv k,.d (Ac false b)] (fun r=>r=drR (rdD b k)):=by
 have hP:=Hy b 0 16 (by omega)
 have hin:=fun x=>C5 (b:=b) (c:=0) (n:=16) (x:=x)
 have hcn:=Is b 0 16
 have hkn:=hk.n
 unfold rdD
 generalize An b 0 16=R at hP hin hcn⊢
 obtain⟨l,rc,ro⟩:=R
 simp only at hin hcn⊢
 by_cases k1:rc≠0
 ·rw[if_pos k1]
  rw[lrA,if_pos k1] at hP
  have gc:((rc:Int) !=0)=true:=by rw[bne_iff_ne];omega
  show Ab _ _ _ (fun r=>r= .tup [.agg drZ,erA rc ro])
  refine acQ 122 Tryz.func72 rfl rfl fun _ _ _=> ?_
  (repeat'((conv=>whnf);first|refine NBr.pos asQ ?_|refine NCall.eq hP Bp ?_|refine NFact.go ⟨by decide+kernel,by kernel_rfl⟩ ?_));(all_goals(conv=>whnf))
  all_goals exact NEnd.eq leQ
 rw[if_neg k1]
 rw[lrA,if_neg k1] at hP
 generalize hR:drF b k l (-1) dr0=R
 refine acQ 122 Tryz.func72 rfl rfl fun _ _ _=> ?_
 (repeat'((conv=>whnf);first|refine NBr.no ?_|refine NCall.eq hP Bp ?_));(all_goals(conv=>whnf))
 refine NLoop.go (fun z:Nat×Int×Dr=>z.1≤l.length∧drF b k (l.drop z.1) z.2.1 z.2.2=R) (fun z=>l.length-z.1) (fun z=>⟨[(0,sv k),(1,.d (Ac false b)),(4,.ptr 4 0),(5,.ptr 5 0),(6,.ptr 6 0),(9,iv z.2.1),(27,.d (bE l)),(28,iv l.length),(29,iv z.1)],[(4,drZ),(5,[iv 0,iv 0]),(6,drC z.2.2)],[]⟩) (0,-1,dr0) ⟨by simp,hR⟩ leQ ?_
 rintro⟨i,last,d⟩ ⟨hi,he⟩
 simp only at hi he
 by_cases hil:i<l.length
 rotate_left
 ·have gi:decide ((i:Int)<(l.length:Int))=false:=decide_eq_false (by omega)
  rw[List.drop_eq_nil_of_le (by omega)] at he
  have he:(some d,0,0)=R:=he
  subst he
  (repeat'((conv=>whnf);refine NBr.neg asQ ?_));(all_goals(conv=>whnf))
  all_goals exact NEnd.eq leQ
 have gi:decide ((i:Int)<(l.length:Int))=true:=decide_eq_true (by omega)
 obtain⟨x,hg⟩:∃p,l[i]?=some p:=⟨_,List.getElem?_eq_getElem hil⟩
 have hdr:l.drop i=x::l.drop (i+1):=by
  obtain⟨h1,h2⟩:=List.getElem?_eq_some_iff.1 hg
  rw[←h2];exact List.drop_eq_getElem_cons h1
 obtain⟨x1,x2,x3⟩:=hin x (List.mem_of_getElem? hg)
 rw[hdr,drF] at he
 clear hdr hin hR
 obtain⟨xc,xn,xk,xa,xb,xs⟩:=x
 simp only at he x1 x2 x3
 by_cases c1:xc≠2
 ·rw[if_pos (.inl c1)] at he
  subst he
  have g1:((xc:Int) !=2)=true:=by rw[bne_iff_ne];omega
  (repeat'((conv=>whnf);first|refine NBr.pos asQ ?_|refine NBr.yes ?_|refine NIdx.tab (fun _=>rfl) hg ?_|refine NFact.go ⟨by decide+kernel,by kernel_rfl⟩ ?_));(all_goals(conv=>whnf))
  all_goals exact NEnd.eq leQ
 have g1:((xc:Int) !=2)=false:=by rw[bne_eq_false_iff_eq];omega
 by_cases c2:k.length≤xn
 ·rw[if_pos (.inr (.inl c2))] at he
  subst he
  have g2:decide ((xn:Int)≥(k.length:Int))=true:=decide_eq_true (by omega)
  (repeat'((conv=>whnf);first|refine NBr.pos asQ ?_|refine NBr.neg asQ ?_|refine NBr.yes ?_|refine NBr.no ?_|refine NIdx.tab (fun _=>rfl) hg ?_|refine NFact.go ⟨by decide+kernel,by kernel_rfl⟩ ?_));(all_goals(conv=>whnf))
  all_goals exact NEnd.eq leQ
 have g2:decide ((xn:Int)≥(k.length:Int))=false:=decide_eq_false (by omega)
 by_cases c3:(xn:Int)≤last
 ·rw[if_pos (.inr (.inr c3))] at he
  subst he
  have g3:decide ((xn:Int)≤last)=true:=decide_eq_true c3
  (repeat'((conv=>whnf);first|refine NBr.pos asQ ?_|refine NBr.neg asQ ?_|refine NBr.no ?_|refine NIdx.tab (fun _=>rfl) hg ?_|refine NFact.go ⟨by decide+kernel,by kernel_rfl⟩ ?_));(all_goals(conv=>whnf))
  all_goals exact NEnd.eq leQ
 have g3:decide ((xn:Int)≤last)=false:=decide_eq_false c3
 rw[if_neg (by rintro(h|h|h);exact c1 h;exact c2 h;exact c3 h)] at he
 obtain⟨kd,hkd⟩:∃p,k[xn]?=some p:=⟨_,List.getElem?_eq_getElem (by omega)⟩
 have hgd:k.getD xn 0=kd:=by rw[List.getD_eq_getElem?_getD,hkd];rfl
 have hko:=hk.o xn kd hkd
 rw[hgd] at he
 obtain⟨c,hc⟩:∃c,(b.drop xb).take (xs-xb)=c:=⟨_,rfl⟩
 have hbc:bod b ⟨xc,xn,xk,xa,xb,xs⟩=c:=hc
 have hcl:c.length≤700000:=by rw[←hc,List.length_take,List.length_drop];omega
 rw[hbc] at he
 clear hgd hbc c1 c2 c3
 by_cases c4:xk≠vR kd
 ·rw[if_pos c4] at he
  subst he
  rcases hko with rfl|rfl|rfl|⟨rfl,-⟩
  all_goals cases xk
  all_goals first
   |exact absurd rfl c4
   |((repeat'((conv=>whnf);first|refine NBr.pos asQ ?_|refine NBr.neg asQ ?_|refine NBr.yes ?_|refine NBr.no ?_|refine NIdx.tab (fun _=>rfl) hg ?_|refine NIdxS.at hkd ?_|(refine NSl.bytes xb xs c hc ?_)|refine NFact.go ⟨by decide+kernel,by kernel_rfl⟩ ?_));(all_goals(conv=>whnf))
     all_goals exact NEnd.eq leQ)
 rw[if_neg c4] at he
 obtain rfl:=Decidable.not_not.1 c4
 clear c4
 rcases hko with rfl|rfl|rfl|⟨rfl,hn4⟩
 ·have e110:vlO 110 c=E1 c:=rfl
  rw[e110] at he
  clear e110
  obtain⟨y,code,off,hy,y1,y2,hcase⟩:=Za c
  have hO:=Im c (by omega)
  rw[hy] at hO
  clear hy
  obtain⟨e,hd'⟩:∃e,(c.drop y.body).take (y.stop-y.body)=e:=⟨_,rfl⟩
  have hel:e.length≤700000:=by rw[←hd',List.length_take,List.length_drop];omega
  rw[hd'] at hcase
  have hI0:=Ni y 2 0 true
  have hI1:=Ni y 2 1 true
  have hN:=T5 e hel
  have hwl:=Ao 0 17 true e (by omega)
  have hW:=Cj 0 17 true e (by omega) (by omega) (by omega)
  have hRp:=Rl (Ae 0 17 true e) (by omega)
  have hRk:=Vn (Ae 0 17 true e)
  generalize Ae 0 17 true e=w at hW hRp hcase hRk hwl
  rcases hcase with⟨h0,hp⟩|⟨rfl,h1,hp⟩|⟨rfl,h1,h2,hp⟩|⟨rfl,h1,h2,hp⟩
  ·rw[hp] at he
   have he:(none,6,xb)=R:=he
   subst he
   have gc:((code:Int) !=0)=true:=by rw[bne_iff_ne];omega
   (repeat'((conv=>whnf);first|refine NBr.pos asQ ?_|refine NBr.neg asQ ?_|refine NBr.yes ?_|refine NBr.no ?_|refine NIdx.tab (fun _=>rfl) hg ?_|refine NIdxS.at hkd ?_|(refine NSl.bytes xb xs c hc ?_)|(refine NStep.inl 200 70 _ Be mixed rfl rfl rfl Tryz.func110 rfl (by kernel_rfl) rfl rfl rfl rfl (fun gh=> ?_))|refine NCall.eq hO Bp ?_|refine NFact.go ⟨by decide+kernel,by kernel_rfl⟩ ?_));(all_goals(conv=>whnf))
   all_goals exact NEnd.eq leQ
  ·rw[h1] at hI0
   cases hn:Do e with
   |none=>
    rw[hn] at hp hN
    rw[hp] at he
    have he:(none,6,xb)=R:=he
    subst he
    have hN:Ab Tryz.prog 112 [.d (Ac false e)] (fun r=>r= .tup [Ay,bv false]):=hN
    (repeat'((conv=>whnf);first|refine NBr.pos asQ ?_|refine NBr.neg asQ ?_|refine NBr.yes ?_|refine NBr.no ?_|refine NIdx.tab (fun _=>rfl) hg ?_|refine NIdxS.at hkd ?_|(refine NSl.bytes xb xs c hc ?_)|(refine NStep.inl 200 70 _ Be mixed rfl rfl rfl Tryz.func110 rfl (by kernel_rfl) rfl rfl rfl rfl (fun gh=> ?_))|refine NCall.eq hO Bp ?_|refine NCall.eq hI0 rfl ?_|(refine NSl.bytes y.body y.stop e hd' ?_)|refine NCall.eq hN Bp ?_|refine NStep.go (Fm rfl rfl (ltN rfl) rfl) ?_|refine NFact.go ⟨by decide+kernel,by kernel_rfl⟩ ?_));(all_goals(conv=>whnf))
    all_goals exact NEnd.eq leQ
   |some f=>
    obtain⟨f0,-,-⟩:=Ll hn hel
    rw[hn] at hp hN
    rw[hp] at he
    have he:drF b k (l.drop (i+1)) xn (d.set xn (.nm f []))=R:=he
    have hs:d.set xn (.nm f [])={d with f:=f}:=if_neg f0
    rw[hs] at he
    have hN:Ab Tryz.prog 112 [.d (Ac false e)] (fun r=>r= .tup [.d (Km f),bv true]):=hN
    (repeat'((conv=>whnf);first|refine NBr.pos asQ ?_|refine NBr.neg asQ ?_|refine NBr.yes ?_|refine NBr.no ?_|refine NIdx.tab (fun _=>rfl) hg ?_|refine NIdxS.at hkd ?_|(refine NSl.bytes xb xs c hc ?_)|(refine NStep.inl 200 70 _ Be mixed rfl rfl rfl Tryz.func110 rfl (by kernel_rfl) rfl rfl rfl rfl (fun gh=> ?_))|refine NCall.eq hO Bp ?_|refine NCall.eq hI0 rfl ?_|(refine NSl.bytes y.body y.stop e hd' ?_)|refine NCall.eq hN Bp ?_|refine NStep.go (Fm rfl rfl (ltN rfl) rfl) ?_|(with_reducible refine NInt.i64 ?_)|refine NFact.go ⟨by decide+kernel,by kernel_rfl⟩ ?_));(all_goals(conv=>whnf))
    refine⟨(i+1,xn,{d with f:=f}),⟨by show i+1≤_;omega,he⟩,by show l.length-(i+1)<l.length-i;omega,?_⟩
    exact leQ
  ·rw[h1] at hI0
   rw[h2] at hI1
   cases hn:Gt w with
   |mk o p=>
    obtain⟨ec,eo⟩:=p
    rw[hn] at hp hRp hRk
    cases o with
    |none=>
     rw[hp] at he
     have he:(none,6,xb)=R:=he
     subst he
     have k0:ec≠0:=(hRk rfl).1
     have ge:((ec:Int)==0)=false:=by rw[beq_eq_false_iff_ne];omega
     have hRp:Ab Tryz.prog 151 [.d (Ac false w)] (fun r=>r= .tup [Ay,erA ec eo]):=hRp
     clear hRk
     (repeat'((conv=>whnf);first|refine NBr.pos asQ ?_|refine NBr.neg asQ ?_|refine NBr.yes ?_|refine NBr.no ?_|refine NIdx.tab (fun _=>rfl) hg ?_|refine NIdxS.at hkd ?_|(refine NSl.bytes xb xs c hc ?_)|(refine NStep.inl 200 70 _ Be mixed rfl rfl rfl Tryz.func110 rfl (by kernel_rfl) rfl rfl rfl rfl (fun gh=> ?_))|refine NCall.eq hO Bp ?_|refine NCall.eq hI0 rfl ?_|refine NCall.eq hI1 rfl ?_|(refine NSl.bytes y.body y.stop e hd' ?_)|refine NCall.eq hW Bp ?_|refine NCall.eq hRp Bp ?_|refine NStep.go (Fm rfl rfl (ltN rfl) rfl) ?_|refine NFact.go ⟨by decide+kernel,by kernel_rfl⟩ ?_|(refine NBr.bne (fun hc hcP=> ?_) (fun hc hcP=> ?_)<;>try(exfalso;omega))));(all_goals(conv=>whnf))
     all_goals exact NEnd.eq leQ
    |some r=>
     rw[hp] at he
     have he:drF b k (l.drop (i+1)) xn {d with r:=r}=R:=he
     have hRp:Ab Tryz.prog 151 [.d (Ac false w)] (fun q=>q= .tup [.d (Rj r),erA 0 0]):=hRp
     clear hRk
     (repeat'((conv=>whnf);first|refine NBr.pos asQ ?_|refine NBr.neg asQ ?_|refine NBr.yes ?_|refine NBr.no ?_|refine NIdx.tab (fun _=>rfl) hg ?_|refine NIdxS.at hkd ?_|(refine NSl.bytes xb xs c hc ?_)|(refine NStep.inl 200 70 _ Be mixed rfl rfl rfl Tryz.func110 rfl (by kernel_rfl) rfl rfl rfl rfl (fun gh=> ?_))|refine NCall.eq hO Bp ?_|refine NCall.eq hI0 rfl ?_|refine NCall.eq hI1 rfl ?_|(refine NSl.bytes y.body y.stop e hd' ?_)|refine NCall.eq hW Bp ?_|refine NCall.eq hRp Bp ?_|refine NStep.go (Fm rfl rfl (ltN rfl) rfl) ?_|(with_reducible refine NInt.i64 ?_)|refine NFact.go ⟨by decide+kernel,by kernel_rfl⟩ ?_));(all_goals(conv=>whnf))
     refine⟨(i+1,xn,{d with r:=r}),⟨by show i+1≤_;omega,he⟩,by show l.length-(i+1)<l.length-i;omega,?_⟩
     exact leQ
  ·rw[h1] at hI0
   rw[h2] at hI1
   rw[hp] at he
   have he:(none,6,xb)=R:=he
   subst he
   (repeat'((conv=>whnf);first|refine NBr.pos asQ ?_|refine NBr.neg asQ ?_|refine NBr.yes ?_|refine NBr.no ?_|refine NIdx.tab (fun _=>rfl) hg ?_|refine NIdxS.at hkd ?_|(refine NSl.bytes xb xs c hc ?_)|(refine NStep.inl 200 70 _ Be mixed rfl rfl rfl Tryz.func110 rfl (by kernel_rfl) rfl rfl rfl rfl (fun gh=> ?_))|refine NCall.eq hO Bp ?_|refine NCall.eq hI0 rfl ?_|refine NCall.eq hI1 rfl ?_|refine NFact.go ⟨by decide+kernel,by kernel_rfl⟩ ?_));(all_goals(conv=>whnf))
   all_goals exact NEnd.eq leQ
 ·have hS:=vY c hcl
  have e114:vlO 114 c=(Oz c).map .rs:=rfl
  rw[e114] at he
  clear e114
  cases hn:Oz c with
  |none=>
   rw[hn] at he hS
   have he:(none,6,xb)=R:=he
   subst he
   have hS:Ab Tryz.prog 111 [.d (Ac false c)] (fun r=>r= .tup [iv 0,bv false]):=hS
   (repeat'((conv=>whnf);first|refine NBr.pos asQ ?_|refine NBr.neg asQ ?_|refine NBr.yes ?_|refine NBr.no ?_|refine NIdx.tab (fun _=>rfl) hg ?_|refine NIdxS.at hkd ?_|(refine NSl.bytes xb xs c hc ?_)|refine NCall.eq hS Bp ?_|refine NFact.go ⟨by decide+kernel,by kernel_rfl⟩ ?_));(all_goals(conv=>whnf))
   all_goals exact NEnd.eq leQ
  |some s=>
   rw[hn] at he hS
   have he:drF b k (l.drop (i+1)) xn {d with s:=s}=R:=he
   have hS:Ab Tryz.prog 111 [.d (Ac false c)] (fun r=>r= .tup [iv s,bv true]):=hS
   (repeat'((conv=>whnf);first|refine NBr.pos asQ ?_|refine NBr.neg asQ ?_|refine NBr.yes ?_|refine NBr.no ?_|refine NIdx.tab (fun _=>rfl) hg ?_|refine NIdxS.at hkd ?_|(refine NSl.bytes xb xs c hc ?_)|refine NCall.eq hS Bp ?_|(with_reducible refine NInt.i64 ?_)|refine NFact.go ⟨by decide+kernel,by kernel_rfl⟩ ?_));(all_goals(conv=>whnf))
   refine⟨(i+1,xn,{d with s:=s}),⟨by show i+1≤_;omega,he⟩,by show l.length-(i+1)<l.length-i;omega,?_⟩
   exact leQ
 ·have hN:=T5 c hcl
  have e105:vlO 105 c=(Do c).map .is:=rfl
  rw[e105] at he
  clear e105
  cases hn:Do c with
  |none=>
   rw[hn] at he hN
   have he:(none,6,xb)=R:=he
   subst he
   have hN:Ab Tryz.prog 112 [.d (Ac false c)] (fun r=>r= .tup [Ay,bv false]):=hN
   (repeat'((conv=>whnf);first|refine NBr.pos asQ ?_|refine NBr.neg asQ ?_|refine NBr.yes ?_|refine NBr.no ?_|refine NIdx.tab (fun _=>rfl) hg ?_|refine NIdxS.at hkd ?_|(refine NSl.bytes xb xs c hc ?_)|refine NCall.eq hN Bp ?_|refine NFact.go ⟨by decide+kernel,by kernel_rfl⟩ ?_));(all_goals(conv=>whnf))
   all_goals exact NEnd.eq leQ
  |some f=>
   rw[hn] at he hN
   have he:drF b k (l.drop (i+1)) xn {d with i:=f}=R:=he
   have hN:Ab Tryz.prog 112 [.d (Ac false c)] (fun r=>r= .tup [.d (Km f),bv true]):=hN
   (repeat'((conv=>whnf);first|refine NBr.pos asQ ?_|refine NBr.neg asQ ?_|refine NBr.yes ?_|refine NBr.no ?_|refine NIdx.tab (fun _=>rfl) hg ?_|refine NIdxS.at hkd ?_|(refine NSl.bytes xb xs c hc ?_)|refine NCall.eq hN Bp ?_|(with_reducible refine NInt.i64 ?_)|refine NFact.go ⟨by decide+kernel,by kernel_rfl⟩ ?_));(all_goals(conv=>whnf))
   refine⟨(i+1,xn,{d with i:=f}),⟨by show i+1≤_;omega,he⟩,by show l.length-(i+1)<l.length-i;omega,?_⟩
   exact leQ
 ·have hB:=qZ c (by omega)
  have e102:vlO 102 c=if c=[255] then some .fl else none:=rfl
  rw[e102] at he
  clear e102
  unfold lC at hB
  by_cases c5:c=[255]
  ·rw[if_pos c5] at he hB
   have he:drF b k (l.drop (i+1)) xn {d with fl:=fun m=>m==xn||d.fl m}=R:=he
   rcases hn4 with rfl|rfl|rfl|rfl
   all_goals
    (repeat'((conv=>whnf);first|refine NBr.pos asQ ?_|refine NBr.neg asQ ?_|refine NBr.yes ?_|refine NBr.no ?_|refine NIdx.tab (fun _=>rfl) hg ?_|refine NIdxS.at hkd ?_|(refine NSl.bytes xb xs c hc ?_)|refine NCall.eq hB Bp ?_|(refine NStep.go (Aq (m:=6) (sz:=1) 1 rfl rfl (ltN rfl) rfl (Be.ty rfl) rfl rfl rfl (by omega)) ?_)|(refine NStep.go (Aq (m:=6) (sz:=1) 2 rfl rfl (ltN rfl) rfl (Be.ty rfl) rfl rfl rfl (by omega)) ?_)|(refine NStep.go (Aq (m:=6) (sz:=1) 4 rfl rfl (ltN rfl) rfl (Be.ty rfl) rfl rfl rfl (by omega)) ?_)|(refine NStep.go (Aq (m:=6) (sz:=1) 5 rfl rfl (ltN rfl) rfl (Be.ty rfl) rfl rfl rfl (by omega)) ?_)|(with_reducible refine NInt.i64 ?_)|refine NFact.go ⟨by decide+kernel,by kernel_rfl⟩ ?_));(all_goals(conv=>whnf))
    refine⟨(i+1,_,_),⟨by show i+1≤_;omega,he⟩,by show l.length-(i+1)<l.length-i;omega,?_⟩
    exact leQ
  ·rw[if_neg c5] at he hB
   have he:(none,6,xb)=R:=he
   subst he
   by_cases c6:c=[0]
   ·rw[if_pos c6] at hB
    rcases hn4 with rfl|rfl|rfl|rfl
    all_goals
     (repeat'((conv=>whnf);first|refine NBr.pos asQ ?_|refine NBr.neg asQ ?_|refine NBr.yes ?_|refine NBr.no ?_|refine NIdx.tab (fun _=>rfl) hg ?_|refine NIdxS.at hkd ?_|(refine NSl.bytes xb xs c hc ?_)|refine NCall.eq hB Bp ?_|(refine NStep.go (Aq (m:=6) (sz:=1) 1 rfl rfl (ltN rfl) rfl (Be.ty rfl) rfl rfl rfl (by omega)) ?_)|(refine NStep.go (Aq (m:=6) (sz:=1) 2 rfl rfl (ltN rfl) rfl (Be.ty rfl) rfl rfl rfl (by omega)) ?_)|(refine NStep.go (Aq (m:=6) (sz:=1) 4 rfl rfl (ltN rfl) rfl (Be.ty rfl) rfl rfl rfl (by omega)) ?_)|(refine NStep.go (Aq (m:=6) (sz:=1) 5 rfl rfl (ltN rfl) rfl (Be.ty rfl) rfl rfl rfl (by omega)) ?_)|refine NFact.go ⟨by decide+kernel,by kernel_rfl⟩ ?_));(all_goals(conv=>whnf))
     all_goals exact NEnd.eq leQ
   ·rw[if_neg c6] at hB
    rcases hn4 with rfl|rfl|rfl|rfl
    all_goals
     (repeat'((conv=>whnf);first|refine NBr.pos asQ ?_|refine NBr.neg asQ ?_|refine NBr.yes ?_|refine NBr.no ?_|refine NIdx.tab (fun _=>rfl) hg ?_|refine NIdxS.at hkd ?_|(refine NSl.bytes xb xs c hc ?_)|refine NCall.eq hB Bp ?_|(refine NStep.go (Aq (m:=6) (sz:=1) 1 rfl rfl (ltN rfl) rfl (Be.ty rfl) rfl rfl rfl (by omega)) ?_)|(refine NStep.go (Aq (m:=6) (sz:=1) 2 rfl rfl (ltN rfl) rfl (Be.ty rfl) rfl rfl rfl (by omega)) ?_)|(refine NStep.go (Aq (m:=6) (sz:=1) 4 rfl rfl (ltN rfl) rfl (Be.ty rfl) rfl rfl rfl (by omega)) ?_)|(refine NStep.go (Aq (m:=6) (sz:=1) 5 rfl rfl (ltN rfl) rfl (Be.ty rfl) rfl rfl rfl (by omega)) ?_)|refine NFact.go ⟨by decide+kernel,by kernel_rfl⟩ ?_));(all_goals(conv=>whnf))
     all_goals exact NEnd.eq leQ
abbrev ptQ (p:Pt):AV:= .agg [.d (Km p.f),.d (Rj p.r),iv p.s,.d (Km p.i)]
abbrev isQ (x:Iss):AV:= .agg [.d (Km x.f),.d (Rj x.r),bv x.u,bv x.c,bv x.n,bv x.a,iv x.s]
abbrev ptZ:AV:= .agg [Ay,Ay,iv 0,Ay]
abbrev isZ:AV:= .agg [Ay,Ay,bv false,bv false,bv false,bv false,iv 0]
def ptR:Option Pt×Nat×Nat→AV
 |(some p,_)=> .tup [ptQ p,erA 0 0]
 |(none,c,o)=> .tup [ptZ,erA c o]
def isR:Option Iss×Nat×Nat→AV
 |(some p,_)=> .tup [isQ p,erA 0 0]
 |(none,c,o)=> .tup [isZ,erA c o]
theorem N0 {p:Prop} (h:p:=by first|rfl|(simp only[AV.gives,AV.ren,AV.give,D.un,D.uns,Ag,Ai,List.nil_append,List.append_nil,List.cons_append,Al,A3,Bz,Bd,Aw,Bt,Cd,Ce,Bg,Dk,Bk,Dq,Ds,G7,Mv,Mt];first|done|rfl)):p:=h
theorem Wc {p:Prop} (h:p:=by((try simp only[AV.gives,AV.ren,AV.give,D.un,D.uns,Ag,Ai,List.nil_append,List.append_nil,List.cons_append,Al,A3,Bz,Bd,Aw,Bt,Cd,Ce,Bg,Dk,Bk,Dq,Ds,G7,Mv,Mt]);(repeat'(first|exact trivial|exact B8 _|refine And.intro ?_ ?_|exact rfl|exact Or.inr rfl|exact Or.inl rfl|exact Or.inl (by rfl)|omega|refine Or.inr ?_));first|done|fail)):p:=h
theorem N1 (b:List UInt8) (hb:b.length≤399000):Ab Tryz.prog 24 [.d (Ac false b)] (fun r=>r=ptR (ptP b)):=by
 have hK:=T6 k3 b CA (by omega)
 unfold ptP
 rcases Pi (k:=k3) (b:=b) (by omega) wL with⟨d,⟨vs,w1,w2,w3,w4⟩,w5⟩|⟨c,o,h1,h2,h3⟩
 ·rw[w5] at hK⊢
  obtain⟨p,rfl,q1,q2,q3⟩:=wN w1 w2
  have hd:Y6 d=p:=by rw[w4];exact V3 q1 q2
  have hs:p.sm:=T0 q1 q3 (by show(vsE (Gb p)).length≤_;rw[←w3];exact hb)
  have hV:=T2 p hs.m (V9 q2)
  clear w5 w4 w3 w2 w1 hs q1 q2 q3
  subst hd
  show Ab _ _ _ (fun r=>r=ptR (if ptW (Y6 d)=true then(some (Y6 d),0,0) else(none,6,0)))
  obtain⟨f,r,s,i,fl⟩:=d
  have hK:Ab Tryz.prog 72 [sv k3,.d (Ac false b)] (fun q=>q= .tup [.agg [.d (Km f),.d (Rj r),iv s,.d (Km i),bv (fl 0),bv (fl 1),bv (fl 2),bv (fl 3),bv (fl 4),bv (fl 5)],erA 0 0]):=hK
  have hdr:Y6 ⟨f,r,s,i,fl⟩=⟨f,r,s,i⟩:=rfl
  rw[hdr] at hV⊢
  cases hw:ptW ⟨f,r,s,i⟩
  ·rw[hw] at hV
   rw[if_neg (by simp)]
   clear hw
   refine acQ 35 Tryz.func24 rfl rfl fun _ _ _=> ?_
   (repeat'((conv=>whnf);first|refine NBr.yes ?_|refine NBr.no ?_|refine NCall.eq hK N0 ?_|refine NCall.le hV Wc ?_));(all_goals(conv=>whnf))
   all_goals exact NEnd.eq leQ
  ·rw[hw] at hV
   rw[if_pos rfl]
   clear hw
   refine acQ 35 Tryz.func24 rfl rfl fun _ _ _=> ?_
   (repeat'((conv=>whnf);first|refine NBr.no ?_|refine NCall.eq hK N0 ?_|refine NCall.le hV Wc ?_));(all_goals(conv=>whnf))
   all_goals exact NEnd.eq leQ
 ·rw[h3] at hK⊢
  have gc:((c:Int) !=0)=true:=by rw[bne_iff_ne];omega
  have hK:Ab Tryz.prog 72 [sv k3,.d (Ac false b)] (fun q=>q= .tup [.agg drZ,erA c o]):=hK
  show Ab _ _ _ (fun r=>r= .tup [ptZ,erA c o])
  refine acQ 35 Tryz.func24 rfl rfl fun _ _ _=> ?_
  (repeat'((conv=>whnf);first|refine NBr.pos asQ ?_|refine NCall.eq hK N0 ?_|refine NFact.go ⟨by decide+kernel,by kernel_rfl⟩ ?_));(all_goals(conv=>whnf))
  all_goals exact NEnd.eq leQ
theorem lE (b:List UInt8) (hb:b.length≤399000):Ab Tryz.prog 32 [.d (Ac false b)] (fun r=>r=isR (isP b)):=by
 have hK:=T6 k6 b CB (by omega)
 unfold isP
 rcases Pi (k:=k6) (b:=b) (by omega) wM with⟨d,⟨vs,w1,w2,w3,w4⟩,w5⟩|⟨c,o,h1,h2,h3⟩
 ·rw[w5] at hK⊢
  obtain⟨p,rfl,q1,q2⟩:=wO w1 w2
  have hd:Y7 d=p:=by rw[w4];exact V4 q1 q2
  have hs:p.sm:=T1 q1 (by show(vsE (Gx p)).length≤_;rw[←w3];exact hb)
  have hV:=T4 p hs.m (V9 q2)
  clear w5 w4 w3 w2 w1 hs q1 q2
  subst hd
  show Ab _ _ _ (fun r=>r=isR (if isW (Y7 d)=true then(some (Y7 d),0,0) else(none,6,0)))
  obtain⟨f,r,s,i,fl⟩:=d
  have hK:Ab Tryz.prog 72 [sv k6,.d (Ac false b)] (fun q=>q= .tup [.agg [.d (Km f),.d (Rj r),iv s,.d (Km i),bv (fl 0),bv (fl 1),bv (fl 2),bv (fl 3),bv (fl 4),bv (fl 5)],erA 0 0]):=hK
  have hdr:Y7 ⟨f,r,s,i,fl⟩=⟨f,r,fl 1,fl 2,fl 4,fl 5,s⟩:=rfl
  rw[hdr] at hV⊢
  generalize fl 0=b0 at hK
  generalize fl 1=b1 at hK hV⊢
  generalize fl 2=b2 at hK hV⊢
  generalize fl 3=b3 at hK
  generalize fl 4=b4 at hK hV⊢
  generalize fl 5=b5 at hK hV⊢
  cases hw:isW ⟨f,r,b1,b2,b4,b5,s⟩
  ·rw[hw] at hV
   rw[if_neg (by simp)]
   clear hw
   refine acQ 45 Tryz.func32 rfl rfl fun _ _ _=> ?_
   (repeat'((conv=>whnf);first|refine NBr.yes ?_|refine NBr.no ?_|refine NCall.eq hK N0 ?_|refine NCall.le hV Wc ?_|(refine NStep.go (Aq (m:=6) (sz:=1) 1 rfl rfl (ltN rfl) rfl (Be.ty rfl) rfl rfl rfl (by omega)) ?_)|(refine NStep.go (Aq (m:=6) (sz:=1) 2 rfl rfl (ltN rfl) rfl (Be.ty rfl) rfl rfl rfl (by omega)) ?_)|(refine NStep.go (Aq (m:=6) (sz:=1) 4 rfl rfl (ltN rfl) rfl (Be.ty rfl) rfl rfl rfl (by omega)) ?_)|(refine NStep.go (Aq (m:=6) (sz:=1) 5 rfl rfl (ltN rfl) rfl (Be.ty rfl) rfl rfl rfl (by omega)) ?_)));(all_goals(conv=>whnf))
   all_goals exact NEnd.eq leQ
  ·rw[hw] at hV
   rw[if_pos rfl]
   clear hw
   refine acQ 45 Tryz.func32 rfl rfl fun _ _ _=> ?_
   (repeat'((conv=>whnf);first|refine NBr.no ?_|refine NCall.eq hK N0 ?_|refine NCall.le hV Wc ?_|(refine NStep.go (Aq (m:=6) (sz:=1) 1 rfl rfl (ltN rfl) rfl (Be.ty rfl) rfl rfl rfl (by omega)) ?_)|(refine NStep.go (Aq (m:=6) (sz:=1) 2 rfl rfl (ltN rfl) rfl (Be.ty rfl) rfl rfl rfl (by omega)) ?_)|(refine NStep.go (Aq (m:=6) (sz:=1) 4 rfl rfl (ltN rfl) rfl (Be.ty rfl) rfl rfl rfl (by omega)) ?_)|(refine NStep.go (Aq (m:=6) (sz:=1) 5 rfl rfl (ltN rfl) rfl (Be.ty rfl) rfl rfl rfl (by omega)) ?_)));(all_goals(conv=>whnf))
   all_goals exact NEnd.eq leQ
 ·rw[h3] at hK⊢
  have gc:((c:Int) !=0)=true:=by rw[bne_iff_ne];omega
  have hK:Ab Tryz.prog 72 [sv k6,.d (Ac false b)] (fun q=>q= .tup [.agg drZ,erA c o]):=hK
  show Ab _ _ _ (fun r=>r= .tup [isZ,erA c o])
  refine acQ 45 Tryz.func32 rfl rfl fun _ _ _=> ?_
  (repeat'((conv=>whnf);first|refine NBr.pos asQ ?_|refine NCall.eq hK N0 ?_|refine NFact.go ⟨by decide+kernel,by kernel_rfl⟩ ?_));(all_goals(conv=>whnf))
  all_goals exact NEnd.eq leQ
structure nmEq (f:List Gn) (r:List Att):Prop where
 f:f.length≤1000000∧∀g∈f,g.eqs
 r:r.length≤1000000∧∀g∈r,g.eqs
structure Pt.eqs (p:Pt):Prop where
 m:nmEq p.f p.r
 i:p.i.length≤1000000∧∀g∈p.i,g.eqs
theorem BD (a b:Pt):decide (a=b)=(decide (a.f=b.f)&&(decide (a.r=b.r)&&((a.s==b.s)&&decide (a.i=b.i)))):=by
 obtain⟨a1,a2,a3,a4⟩:=a;obtain⟨b1,b2,b3,b4⟩:=b
 rw[Bool.eq_iff_iff];simp
theorem zQ (a b:Iss):decide (a=b)=(decide (a.f=b.f)&&(decide (a.r=b.r)&&((a.u==b.u)&&((a.c==b.c)&&((a.s==b.s)&&((a.n==b.n)&&(a.a==b.a))))))):=by
 obtain⟨a1,a2,a3,a4,a5,a6,a7⟩:=a;obtain⟨b1,b2,b3,b4,b5,b6,b7⟩:=b
 rw[Bool.eq_iff_iff]
 simp only[decide_eq_true_iff,Bool.and_eq_true,beq_iff_eq,Iss.mk.injEq]
 exact⟨fun⟨a,b,c,d,e,f,g⟩=>⟨a,b,c,d,g,e,f⟩,fun⟨a,b,c,d,e,f,g⟩=>⟨a,b,c,d,f,g,e⟩⟩
theorem Cw {p:Prop} (h:p:=by first|rfl|(simp only[AV.gives,AV.ren,AV.give,D.un,D.uns,Ag,Ai,List.nil_append,List.append_nil,List.cons_append,Al,A3,Bz,Bd,Aw,Bt,Cd,Ce,Bg,Dk,Bk];first|done|rfl)):p:=h
theorem rJ (a b:Pt) (ha:a.eqs) (hb:b.eqs):Ab Tryz.prog 25 [dpA a,dpA b] (fun r=>r=bv (decide (a=b))):=by
 have h1:=Ix a.f b.f ha.m.f hb.m.f
 have h2:=Vy a.r b.r ha.m.r hb.m.r
 have h3:=Ix a.i b.i ha.i hb.i
 rw[BD]
 obtain⟨a1,a2,a3,a4⟩:=a;obtain⟨b1,b2,b3,b4⟩:=b
 simp only at h1 h2 h3⊢
 generalize decide (a1=b1)=q1 at h1⊢
 generalize decide (a2=b2)=q2 at h2⊢
 generalize decide (a4=b4)=q4 at h3⊢
 cases q1
 ·refine acQ 31 Tryz.func25 rfl rfl fun _ _ _=> ?_
  (repeat'((conv=>whnf);first|refine NBr.no ?_|refine NCall.eq h1 Cw ?_));(all_goals(conv=>whnf))
  all_goals exact NEnd.eq leQ
 cases q2
 ·refine acQ 31 Tryz.func25 rfl rfl fun _ _ _=> ?_
  (repeat'((conv=>whnf);first|refine NBr.yes ?_|refine NBr.no ?_|refine NCall.eq h1 Cw ?_|refine NCall.eq h2 Cw ?_));(all_goals(conv=>whnf))
  all_goals exact NEnd.eq leQ
 cases g:(a3==b3)
 ·refine acQ 31 Tryz.func25 rfl rfl fun _ _ _=> ?_
  (repeat'((conv=>whnf);first|refine NBr.neg asQ ?_|refine NBr.yes ?_|refine NBr.no ?_|refine NCall.eq h1 Cw ?_|refine NCall.eq h2 Cw ?_));(all_goals(conv=>whnf))
  all_goals exact NEnd.eq leQ
 ·refine acQ 31 Tryz.func25 rfl rfl fun _ _ _=> ?_
  (repeat'((conv=>whnf);first|refine NBr.pos asQ ?_|refine NBr.yes ?_|refine NCall.eq h1 Cw ?_|refine NCall.eq h2 Cw ?_|refine NCall.eq h3 Cw ?_));(all_goals(conv=>whnf))
  all_goals exact NEnd.eq leQ
theorem gD (a b:Iss) (ha:nmEq a.f a.r) (hb:nmEq b.f b.r):Ab Tryz.prog 33 [diA a,diA b] (fun r=>r=bv (decide (a=b))):=by
 have h1:=Ix a.f b.f ha.f hb.f
 have h2:=Vy a.r b.r ha.r hb.r
 rw[zQ]
 obtain⟨a1,a2,a3,a4,a5,a6,a7⟩:=a;obtain⟨b1,b2,b3,b4,b5,b6,b7⟩:=b
 simp only at h1 h2⊢
 generalize decide (a1=b1)=q1 at h1⊢
 generalize decide (a2=b2)=q2 at h2⊢
 cases q1
 ·refine acQ 52 Tryz.func33 rfl rfl fun _ _ _=> ?_
  (repeat'((conv=>whnf);first|refine NBr.no ?_|refine NCall.eq h1 Cw ?_));(all_goals(conv=>whnf))
  all_goals exact NEnd.eq leQ
 cases q2
 ·refine acQ 52 Tryz.func33 rfl rfl fun _ _ _=> ?_
  (repeat'((conv=>whnf);first|refine NBr.yes ?_|refine NBr.no ?_|refine NCall.eq h1 Cw ?_|refine NCall.eq h2 Cw ?_));(all_goals(conv=>whnf))
  all_goals exact NEnd.eq leQ
 cases g3:(a3==b3)
 ·refine acQ 52 Tryz.func33 rfl rfl fun _ _ _=> ?_
  (repeat'((conv=>whnf);first|refine NBr.neg asQ ?_|refine NBr.yes ?_|refine NBr.no ?_|refine NCall.eq h1 Cw ?_|refine NCall.eq h2 Cw ?_));(all_goals(conv=>whnf))
  all_goals exact NEnd.eq leQ
 cases g4:(a4==b4)
 ·refine acQ 52 Tryz.func33 rfl rfl fun _ _ _=> ?_
  (repeat'((conv=>whnf);first|refine NBr.pos asQ ?_|refine NBr.neg asQ ?_|refine NBr.yes ?_|refine NBr.no ?_|refine NCall.eq h1 Cw ?_|refine NCall.eq h2 Cw ?_));(all_goals(conv=>whnf))
  all_goals exact NEnd.eq leQ
 cases g7:(a7==b7)
 ·refine acQ 52 Tryz.func33 rfl rfl fun _ _ _=> ?_
  (repeat'((conv=>whnf);first|refine NBr.pos asQ ?_|refine NBr.neg asQ ?_|refine NBr.yes ?_|refine NBr.no ?_|refine NCall.eq h1 Cw ?_|refine NCall.eq h2 Cw ?_));(all_goals(conv=>whnf))
  all_goals exact NEnd.eq leQ
 cases g5:(a5==b5)
 ·refine acQ 52 Tryz.func33 rfl rfl fun _ _ _=> ?_
  (repeat'((conv=>whnf);first|refine NBr.pos asQ ?_|refine NBr.neg asQ ?_|refine NBr.yes ?_|refine NBr.no ?_|refine NCall.eq h1 Cw ?_|refine NCall.eq h2 Cw ?_));(all_goals(conv=>whnf))
  all_goals exact NEnd.eq leQ
 ·refine acQ 52 Tryz.func33 rfl rfl fun _ _ _=> ?_
  (repeat'((conv=>whnf);first|refine NBr.pos asQ ?_|refine NBr.yes ?_|refine NCall.eq h1 Cw ?_|refine NCall.eq h2 Cw ?_));(all_goals(conv=>whnf))
  all_goals exact NEnd.eq leQ
def ptC (p:Pt):List D:=[Fs p.f,Gp p.r,.v (.int .i64 p.s),Fs p.i]

end Go.Proofs.YtgpaehhbdbgeaaaGreatDoor
