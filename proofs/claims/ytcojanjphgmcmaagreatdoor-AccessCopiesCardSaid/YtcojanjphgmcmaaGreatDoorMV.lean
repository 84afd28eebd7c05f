/- MV: the texts AcM AcP AcI AcR AcQ LawAM LawAC LawAE LawAK, one behind the other. No condition but what each lemma says. -/
import Derived.Test.YtcojanjphgmcmaaGreatDoorMT
import Derived.Test.YtcojanjphgmcmaaGreatDoorMK
import Derived.Test.YtcojanjphgmcmaaGreatDoorMM
import Derived.Test.YtcojanjphgmcmaaGreatDoorMR
import Derived.Test.YtcojanjphgmcmaaGreatDoorMJ
import Derived.Test.YtcojanjphgmcmaaGreatDoorMC
set_option maxRecDepth 100000
set_option maxHeartbeats 16000000
namespace Go.Proofs.YtcojanjphgmcmaaGreatDoor
open Go.RowKit
def acV (a:Acc):Bool:=C9 a.m&&gnW a.g
def acE (a:Acc):List UInt8:=Ae 0 16 true (Ae 0 6 false (Am a.m)++gnE a.g)
structure Acc.mid (a:Acc):Prop where
 o:a.m.length≤3000000
 g:a.g.mid
structure acsM (l:List Acc):Prop where
 n:l.length≤1000000
 m:∀a∈l,a.mid
 e:(l.map acE).flatten.length≤800000000
def K1 (l:List Acc):Bool:= !l.isEmpty&&l.all acV
def Bd (l:List Acc):List UInt8:=Ae 0 16 true (l.map acE).flatten
theorem C6 {l:List Acc}:K1 l=true↔l≠[]∧l.all acV=true:=by
 unfold K1
 cases l<;>simp
abbrev FW (a:Acc):AV:= .agg ((Ye a).map AV.d)
theorem R3 {a:Acc} (h:acV a=true):C9 a.m=true∧gnW a.g=true:=by unfold acV at h;rwa[Bool.and_eq_true] at h
theorem I5 {p:Prop} (h:p:=by first|rfl|(simp only[AV.gives,AV.ren,AV.give,D.un,D.uns,Ag,Ah,List.nil_append,List.append_nil,List.cons_append,Al,Av,Bt,Az,Ar,Bf,Bx,D7,D1,C8,Cc,B6,Bg];first|done|rfl)):p:=h
theorem vK (a:Acc) (h:a.mid) (hw:gnW a.g=true):Aa Tryz.prog 37 [FW a] (fun r=>r= .tup [sx a.m,.d (Ac true (gnE a.g)),bv true]):=by
 have hM:=Wq a.g h.g
 rw[hw] at hM
 have hM:Aa Tryz.prog 38 [gnA a.g] (fun r=>r= .tup [As 0 5 (gnE a.g),iv 0]):=hM
 refine acQ 18 Tryz.func37 rfl rfl fun _ _ _=> ?_
 (repeat'((conv=>whnf);refine NCall.eq hM I5 ?_));(all_goals(conv=>whnf))
 all_goals exact NEnd.eq leQ
theorem AC (a:Acc) (h:a.mid) (hw:gnW a.g=false):Aa Tryz.prog 37 [FW a] (fun r=>r= .tup [sx a.m,Ap,bv false]):=by
 have hM:=Wq a.g h.g
 rw[hw] at hM
 have hM:Aa Tryz.prog 38 [gnA a.g] (fun r=>r= .tup [Ap,iv 8]):=hM
 refine acQ 18 Tryz.func37 rfl rfl fun _ _ _=> ?_
 (repeat'((conv=>whnf);refine NCall.eq hM I5 ?_));(all_goals(conv=>whnf))
 all_goals exact NEnd.eq leQ
theorem AD {a:Acc} (h:a.mid):(acE a).length≤3700020:=by
 have h1:=F6 a.m
 have h2:=Ms h.g
 have h3:=Aj 0 6 false (Am a.m) (by have:=h.o;omega)
 have:=h.o
 have h4:=Aj 0 16 true (Ae 0 6 false (Am a.m)++gnE a.g) (by rw[List.length_append];omega)
 rw[List.length_append] at h4
 unfold acE;omega
theorem jV {l:List Acc} {i:Nat} {a:Acc} (hg:l[i]?=some a) (hv:acV a=false):K1 l=false:=by
 cases h:K1 l with
 |false=>rfl
 |true=>
  rw[List.all_eq_true.1 (C6.1 h).2 a (List.mem_of_getElem? hg)] at hv;cases hv
theorem vL (l:List Acc) (h:acsM l):Aa Tryz.prog 22 [adA,.d (Cb l)] (fun r=>r=fZ (K1 l) (Bd l)):=by
 obtain⟨hl,hs,hq⟩:=h
 refine acQ 72 Tryz.func22 rfl rfl fun _ _ _=> ?_
 (all_goals(conv=>whnf))
 refine NLoop.goA [.s 6 1 26] (fun i:Nat=>i≤l.length∧(l.take i).all acV=true) (fun i=>l.length-i) (fun i=>⟨[(2,.ptr 2 0),(6,B6 6 1 26 Fc ((l.take i).map acE)),(16,.d (Cb l)),(17,iv l.length),(18,iv i)],[(2,[.d (.fn 35 []),.d (.fn 37 [])])],[(6,(((l.take i).map acE).length,1,26))]⟩) 0 ⟨by omega,rfl⟩ leQ ?_
 rintro i ⟨hi,ha⟩
 have hml:((l.take i).map acE).length≤1000000:=by rw[List.length_map,List.length_take];omega
 by_cases hik:i<l.length
 ·have gi:decide ((i:Int)<l.length)=true:=decide_eq_true (by omega)
  obtain⟨a,hg⟩:∃p,l[i]?=some p:=⟨_,List.getElem?_eq_getElem hik⟩
  have hm:=hs a (List.mem_of_getElem? hg)
  have o1:=hm.o
  have hO:=H3 a.m (by omega)
  cases hf:gnW a.g
  ·have hS:=AC a hm hf
   rw[jV hg (show acV a=false by unfold acV;rw[hf,Bool.and_false])]
   (repeat'((conv=>whnf);first|refine NBr.pos asQ ?_|refine NBr.yes ?_|refine NIdx.tab (fun _=>rfl) hg ?_|refine NCall.eq hS I5 ?_|refine NCall.eq hO rfl ?_));(all_goals(conv=>whnf))
   all_goals exact NEnd.eq leQ
  have hS:=vK a hm hf
  cases hv:C9 a.m
  ·have h8:Lp a.m=8:=by
    unfold C9 at hv
    unfold Lp
    cases h:Dd a.m with
    |none=>rfl
    |some a=>rw[h] at hv;cases hv
   rw[h8] at hO
   rw[jV hg (show acV a=false by unfold acV;rw[hv,Bool.false_and])]
   (repeat'((conv=>whnf);first|refine NBr.pos asQ ?_|refine NBr.yes ?_|refine NBr.no ?_|refine NIdx.tab (fun _=>rfl) hg ?_|refine NCall.eq hS I5 ?_|refine NCall.eq hO rfl ?_));(all_goals(conv=>whnf))
   all_goals exact NEnd.eq leQ
  ·have h8:Lp a.m=0:=(Jn a.m).1 hv
   rw[h8] at hO
   have hav:acV a=true:=by unfold acV;rw[hf,hv];rfl
   have k1:=F6 a.m
   have k2:=Aj 0 6 false (Am a.m) (by omega)
   have k3:=Ms hm.g
   have hW:=F1 0 6 false [Am a.m] (by omega) (by omega) (by simp;omega) (by simp)
   rw[show [Am a.m].flatten=Am a.m by simp] at hW
   have hQ:=Ke [Ae 0 6 false (Am a.m),gnE a.g] (by simp;omega) (by simp)
   rw[show Ae 0 16 true [Ae 0 6 false (Am a.m),gnE a.g].flatten=acE a by simp[acE]] at hQ
   have hs':=F8 acE hg
   generalize acE a=e at hQ hs'
   generalize gnE a.g=e2 at hS hQ
   (repeat'((conv=>whnf);first|refine NBr.pos asQ ?_|refine NBr.no ?_|refine NIdx.tab (fun _=>rfl) hg ?_|refine NCall.eq hS I5 ?_|refine NCall.eq hO rfl ?_|refine NCall.eq hW I5 ?_|refine NCall.eq hQ I5 ?_|refine NApp.one Fc e ?_|(with_reducible refine NInt.i64 ?_)));(all_goals(conv=>whnf))
   refine⟨i+1,⟨by omega,Fr acV hg hav ha⟩,by omega,?_⟩
   rw[hs']
   exact leQ
 ·have gi:decide ((i:Int)<l.length)=false:=decide_eq_false (by omega)
  obtain rfl:i=l.length:=by omega
  rw[List.take_length] at ha⊢
  have hS:=Ke (l.map acE) (by omega) (by rw[List.length_map];omega)
  by_cases h0:l=[]
  ·subst h0
   (repeat'((conv=>whnf);first|refine NBr.neg asQ ?_|refine NBr.yes ?_));(all_goals(conv=>whnf))
   all_goals exact NEnd.eq leQ
  ·have gj:(((l.map acE).length:Int)==0)=false:=by rw[beq_eq_false_iff_ne,List.length_map];intro h;exact h0 (List.eq_nil_of_length_eq_zero (by omega))
   rw[C6.2 ⟨h0,ha⟩]
   (repeat'((conv=>whnf);first|refine NBr.neg asQ ?_|refine NCall.eq hS I5 ?_));(all_goals(conv=>whnf))
   all_goals exact NEnd.eq leQ
theorem Et (l:List Acc) (h:acsM l):Aa Tryz.prog 10 [.d (Cb l)] (fun r=>r=fZ (K1 l) (Bd l)):=by
 have hA:=T7
 have hP:=vL l h
 cases hw:K1 l
 all_goals
  rw[hw] at hP
  refine acQ 9 Tryz.func10 rfl rfl fun _ _ _=> ?_
  (repeat'((conv=>whnf);first|refine NCall.eq hA rfl ?_|refine NCall.eq hP I5 ?_));(all_goals(conv=>whnf))
  all_goals exact NEnd.eq leQ
theorem Ur (l:List Acc) (h:acsM l):Aa Tryz.prog 17 [.d (Cb l)] (fun r=>r=bv (K1 l)):=by
 have hP:=Et l h
 cases hw:K1 l
 all_goals
  rw[hw] at hP
  refine acQ 12 Tryz.func17 rfl rfl fun _ _ _=> ?_
  (repeat'((conv=>whnf);refine NCall.eq hP I5 ?_));(all_goals(conv=>whnf))
  all_goals exact NEnd.eq leQ
def vM (a:Acc):List D:=sD a.m::oE a.g
def N8 (l:List Acc):D:=Gk true 10 vM l
theorem jW (l:List Acc):D.uns (l.flatMap vM)=l.flatMap Ye:=by
 induction l with
 |nil=>rfl
 |cons a r ih=>
  rw[List.flatMap_cons,D.uns_app,ih,List.flatMap_cons]
  show D.un (sD a.m)::D.uns (oE a.g)++_=_
  rw[jU];rfl
theorem Pm (l:List Acc):(N8 l).un=Cb l:=by
 show D.sl false l.length 10 (D.uns (l.flatMap vM))=_
 rw[jW];rfl
abbrev acA (id:List UInt8) (g:Gn):AV:= .agg [sx id,iv g.k,.d (sD g.oid),.d (sD g.tx),.d (Ac true g.by'),.d (L2 g.nm),iv g.ak,.d (sD g.av),iv g.pk,.d (sD g.pv)]
theorem Da {p:Prop} (h:p:=by first|rfl|(simp only[AV.gives,AV.ren,AV.give,D.un,D.uns,Ag,Ah,List.nil_append,List.append_nil,List.cons_append,Al,Av,Bt,Az,Ar,Bf,Bx,D7,D1,C8,Cc,B6,Bg,Ew,Ex,Pm,jW,jU];first|done|rfl)):p:=h
theorem vN (id b:List UInt8) (hb:b.length≤800000) {g:Gn} (h:I3 b=some g):Aa Tryz.prog 35 [sx id,.d (Ac false b)] (fun r=>r= .tup [acA id g,bv true]):=by
 have hP:=N1 b hb
 rw[h] at hP
 have hP:Aa Tryz.prog 36 [.d (Ac false b)] (fun r=>r= .tup [gnQ g,erA 0 0]):=hP
 refine acQ 19 Tryz.func35 rfl rfl fun _ _ _=> ?_
 (repeat'((conv=>whnf);first|refine NCall.eq hP Da ?_|refine NFact.go ⟨by decide+kernel,by kernel_rfl⟩ ?_));(all_goals(conv=>whnf))
 all_goals exact NEnd.eq leQ
theorem AE (id b:List UInt8) (hb:b.length≤800000) (h:I3 b=none):Aa Tryz.prog 35 [sx id,.d (Ac false b)] (fun r=>r= .tup [acA id gz,bv false]):=by
 have hP:=N1 b hb
 obtain⟨hc0,-⟩:=jH b
 rw[h] at hP
 generalize fY b=e at hP hc0
 obtain⟨c,o⟩:=e
 simp only at hc0
 have hP:Aa Tryz.prog 36 [.d (Ac false b)] (fun r=>r= .tup [gnQ gz,erA c o]):=hP
 have gc:((c:Int)==0)=false:=by rw[beq_eq_false_iff_ne];omega
 refine acQ 19 Tryz.func35 rfl rfl fun _ _ _=> ?_
 (repeat'((conv=>whnf);first|refine NCall.eq hP Da ?_|refine NFact.go ⟨by decide+kernel,by kernel_rfl⟩ ?_));(all_goals(conv=>whnf))
 all_goals(refine NEnd.eq ?_;(repeat'(first|exact trivial|exact Ao _|refine And.intro ?_ ?_|exact rfl));(all_goals(conv=>whnf)))
 all_goals exact gc
def vO:Option (List UInt8×List UInt8)→AV
 |none=> .tup [.agg [sx [],iv 0,sx [],sx [],Ap,Ap,iv 0,sx [],iv 0,sx []],bv false]
 |some (id,s)=>match I3 s with
  |some g=> .tup [acA id g,bv true]
  |none=> .tup [acA id gz,bv false]
theorem oG (b:List UInt8) (hb:b.length≤800000):Aa Tryz.prog 43 [adA,.d (Ac false b)] (fun r=>r=vO (Nb b)):=by
 have hP:=Jj b 0 16 (by omega)
 have hin:=fun x=>Ez (b:=b) (c:=0) (n:=16) (x:=x)
 have hcn:=Kl b 0 16
 unfold Nb
 generalize Au b 0 16=r at hP hin hcn⊢
 by_cases h1:r.code≠0
 ·rw[Pb (.inl h1)]
  rw[lrA,if_pos h1] at hP
  have gc:((r.code:Int) !=0)=true:=by rw[bne_iff_ne];omega
  generalize r.code=c at hP gc
  generalize r.off=o at hP
  refine acQ 65 Tryz.func43 rfl rfl fun _ _ _=> ?_
  (repeat'((conv=>whnf);first|refine NBr.pos asQ ?_|refine NBr.yes ?_|refine NCall.eq hP Da ?_));(all_goals(conv=>whnf))
  all_goals exact NEnd.eq leQ
 rw[lrA,if_neg h1] at hP
 by_cases h2:r.l.length≠2
 ·rw[Pb (.inr h2)]
  have gl:((r.l.length:Int) !=2)=true:=by rw[bne_iff_ne];omega
  refine acQ 65 Tryz.func43 rfl rfl fun _ _ _=> ?_
  (repeat'((conv=>whnf);first|refine NBr.pos asQ ?_|refine NBr.yes ?_|refine NBr.no ?_|refine NCall.eq hP Da ?_));(all_goals(conv=>whnf))
  all_goals exact NEnd.eq leQ
 obtain⟨l,c,o⟩:=r
 obtain⟨x,y,rfl⟩:∃x y,l=[x,y]:=by
  match l,h2 with
  |[x,y],_=>exact⟨x,y,rfl⟩
  |[],h=>simp at h
  |[x],h=>simp at h
  |x::y::z::r,h=>simp at h
 obtain rfl:c=0:=Decidable.not_not.1 h1
 obtain⟨x1,x2,x3⟩:=hin x (by simp)
 obtain⟨y1,y2,y3⟩:=hin y (by simp)
 have hI:=S4 x 0 6 false
 have hD:=Kj (bod b x) (by unfold bod;rw[List.length_take,List.length_drop];omega)
 have hel:=R1 b y
 have g0:([x,y]:List El)[0]?=some x:=rfl
 have g1:([x,y]:List El)[1]?=some y:=rfl
 show Aa _ _ _ (fun r=>r=vO (if x.isB 0 6 false=true∧odC (bod b x)=0 then some (odT (bod b x),elO b y) else none))
 cases hi:x.isB 0 6 false
 ·rw[hi] at hI
  rw[if_neg (by simp)]
  refine acQ 65 Tryz.func43 rfl rfl fun _ _ _=> ?_
  (repeat'((conv=>whnf);first|refine NBr.yes ?_|refine NBr.no ?_|refine NCall.eq hP Da ?_|refine NIdx.tab (fun _=>rfl) g0 ?_|refine NCall.eq hI rfl ?_));(all_goals(conv=>whnf))
  all_goals exact NEnd.eq leQ
 rw[hi] at hI
 by_cases h3:odC (bod b x)=0
 ·rw[if_pos ⟨rfl,h3⟩]
  rw[Ky,h3] at hD
  rw[vO]
  cases hg:I3 (elO b y) with
  |some g=>
   have hM:=vN (odT (bod b x)) (elO b y) (by omega) hg
   unfold bod at hD hM⊢
   unfold elO at hM
   refine acQ 65 Tryz.func43 rfl rfl fun _ _ _=> ?_
   (repeat'((conv=>whnf);first|refine NBr.no ?_|refine NCall.eq hP Da ?_|refine NIdx.tab (fun _=>rfl) g0 ?_|refine NIdx.tab (fun _=>rfl) g1 ?_|refine NCall.eq hI rfl ?_|refine NSl.slice (x.body) (x.stop) ?_|refine NSl.slice (y.at') (y.stop) ?_|refine NCall.eq hD Da ?_|refine NCall.eq hM Da ?_|refine NFact.go ⟨by decide+kernel,by kernel_rfl⟩ ?_));(all_goals(conv=>whnf))
   all_goals exact NEnd.eq leQ
  |none=>
   have hM:=AE (odT (bod b x)) (elO b y) (by omega) hg
   unfold bod at hD hM⊢
   unfold elO at hM
   refine acQ 65 Tryz.func43 rfl rfl fun _ _ _=> ?_
   (repeat'((conv=>whnf);first|refine NBr.no ?_|refine NCall.eq hP Da ?_|refine NIdx.tab (fun _=>rfl) g0 ?_|refine NIdx.tab (fun _=>rfl) g1 ?_|refine NCall.eq hI rfl ?_|refine NSl.slice (x.body) (x.stop) ?_|refine NSl.slice (y.at') (y.stop) ?_|refine NCall.eq hD Da ?_|refine NCall.eq hM Da ?_|refine NFact.go ⟨by decide+kernel,by kernel_rfl⟩ ?_));(all_goals(conv=>whnf))
   all_goals exact NEnd.eq leQ
 ·rw[if_neg (fun h=>h3 h.2)]
  have gd:((odC (bod b x):Int) !=0)=true:=by rw[bne_iff_ne];omega
  rw[Ky] at hD
  unfold bod at hD gd
  refine acQ 65 Tryz.func43 rfl rfl fun _ _ _=> ?_
  (repeat'((conv=>whnf);first|refine NBr.pos asQ ?_|refine NBr.no ?_|refine NCall.eq hP Da ?_|refine NIdx.tab (fun _=>rfl) g0 ?_|refine NCall.eq hI rfl ?_|refine NSl.slice (x.body) (x.stop) ?_|refine NCall.eq hD Da ?_|refine NFact.go ⟨by decide+kernel,by kernel_rfl⟩ ?_));(all_goals(conv=>whnf))
  all_goals exact NEnd.eq leQ
def vAc (s:List UInt8):Option Acc:=match Nb s with
 |some (id,t)=>(I3 t).map fun g=>⟨id,g⟩
 |none=>none
def Dg (b:List UInt8):List El→Option (List Acc)×Nat
 |[]=>(some [],0)
 |x::r=>match vAc (elO b x) with
  |none=>(none,x.at')
  |some m=>match Dg b r with
   |(some ms,_)=>(some (m::ms),0)
   |(none,p)=>(none,p)
def Us (ms:List Acc):Option (List Acc)×Nat→Option (List Acc)×Nat
 |(some r,_)=>(some (ms++r),0)
 |(none,p)=>(none,p)
theorem gF (b:List UInt8):∀l:List El,(Dg b l).1.isSome=true→(Dg b l).2=0
 |[],_=>rfl
 |x::r,h=>by
  rw[Dg] at h⊢
  cases hv:vAc (elO b x) with
  |none=>rw[hv] at h;cases h
  |some m=>
   rw[hv] at h
   cases hp:Dg b r with
   |mk o p=>rw[hp] at h;cases o with
    |none=>cases h
    |some ms=>rfl
theorem oH (b:List UInt8) (l:List El):Us [] (Dg b l)=Dg b l:=by
 have h:=gF b l
 cases hp:Dg b l with
 |mk o p=>
  rw[hp] at h
  cases o with
  |none=>rfl
  |some ms=>have:=h rfl;simp only at this;subst this;rfl
theorem gG {b:List UInt8} {x:El} {r:List El} {m:Acc} (ms:List Acc) (hv:vAc (elO b x)=some m):Us ms (Dg b (x::r))=Us (ms++[m]) (Dg b r):=by
 rw[Dg,hv]
 cases hp:Dg b r with
 |mk o p=>cases o with
  |none=>rfl
  |some l=>simp[Us]
def J3 (b:List UInt8):AV:=if(Au b 0 16).code≠0 then .tup [Ap,erA (Au b 0 16).code (Au b 0 16).off] else
 match Dg b (Au b 0 16).l with
 |(none,p)=> .tup [Ap,erA 6 p]
 |(some [],_)=> .tup [Ap,erA 1 b.length]
 |(some ms,_)=> .tup [.d (N8 ms),erA 0 0]
theorem oI (b:List UInt8) (hb:b.length≤800000):Aa Tryz.prog 23 [adA,.d (Ac false b)] (fun r=>r=J3 b):=by
 have hP:=Jj b 0 16 (by omega)
 have hin:=fun x=>Ez (b:=b) (c:=0) (n:=16) (x:=x)
 have hcn:=Kl b 0 16
 unfold J3
 generalize Au b 0 16=R at hP hin hcn⊢
 by_cases h1:R.code≠0
 ·rw[if_pos h1]
  rw[lrA,if_pos h1] at hP
  have gc:((R.code:Int) !=0)=true:=by rw[bne_iff_ne];omega
  generalize R.code=c at hP gc
  generalize R.off=o at hP
  refine acQ 57 Tryz.func23 rfl rfl fun _ _ _=> ?_
  (repeat'((conv=>whnf);first|refine NBr.pos asQ ?_|refine NCall.eq hP Da ?_|refine NFact.go ⟨by decide+kernel,by kernel_rfl⟩ ?_));(all_goals(conv=>whnf))
  all_goals exact NEnd.eq leQ
 rw[if_neg h1]
 rw[lrA,if_neg h1] at hP
 generalize R.l=l at hP hin hcn⊢
 have hd0:Dg b l=Us [] (Dg b (l.drop 0)):=by rw[oH,List.drop_zero]
 generalize hQ:Dg b l=q at hd0⊢
 refine acQ 57 Tryz.func23 rfl rfl fun _ _ _=> ?_
 (repeat'((conv=>whnf);first|refine NBr.no ?_|refine NCall.eq hP Da ?_));(all_goals(conv=>whnf))
 refine NLoop.goA [.s 8 10 49] (fun z:Nat×List Acc=>z.1≤l.length∧z.2.length≤z.1∧q=Us z.2 (Dg b (l.drop z.1))) (fun z=>l.length-z.1) (fun z=>⟨[(1,.d (Ac false b)),(2,.ptr 2 0),(5,.ptr 5 0),(8,B6 8 10 49 vM z.2),(22,.d (mG l)),(23,iv l.length),(24,iv z.1)],[(2,[.d (.fn 35 []),.d (.fn 37 [])]),(5,[iv 0,iv 0])],[(8,(z.2.length,10,49))]⟩) (0,[]) ⟨by simp,by simp,hd0⟩ leQ ?_
 rintro⟨i,ms⟩ ⟨hi,hm,he⟩
 simp only at hi hm he
 by_cases hik:i<l.length
 ·have gi:decide ((i:Int)<l.length)=true:=decide_eq_true (by omega)
  obtain⟨x,hg⟩:∃p,l[i]?=some p:=⟨_,List.getElem?_eq_getElem hik⟩
  obtain⟨x1,x2,x3⟩:=hin x (List.mem_of_getElem? hg)
  have hO:=oG (elO b x) (by unfold elO;rw[List.length_take,List.length_drop];omega)
  rw[Qd hg] at he
  have bad:vAc (elO b x)=none→q=(none,x.at'):=fun h=>by rw[he,Dg,h];rfl
  unfold vAc at bad
  cases hp:Nb (elO b x) with
  |none=>
   rw[hp] at hO bad
   rw[bad rfl]
   rw[vO] at hO
   unfold elO at hO
   (repeat'((conv=>whnf);first|refine NBr.pos asQ ?_|refine NBr.yes ?_|refine NIdx.tab (fun _=>rfl) hg ?_|refine NSl.slice (x.at') (x.stop) ?_|refine NCall.eq hO Da ?_|refine NFact.go ⟨by decide+kernel,by kernel_rfl⟩ ?_));(all_goals(conv=>whnf))
   all_goals exact NEnd.eq leQ
  |some w=>
   obtain⟨id,s⟩:=w
   rw[hp] at hO bad
   rw[vO] at hO
   cases hk:I3 s with
   |none=>
    rw[hk] at hO
    have bad':q=(none,x.at'):=bad (by show(I3 s).map (fun g=>(⟨id,g⟩:Acc))=none;rw[hk];rfl)
    rw[bad']
    unfold elO at hO
    (repeat'((conv=>whnf);first|refine NBr.pos asQ ?_|refine NBr.yes ?_|refine NIdx.tab (fun _=>rfl) hg ?_|refine NSl.slice (x.at') (x.stop) ?_|refine NCall.eq hO Da ?_|refine NFact.go ⟨by decide+kernel,by kernel_rfl⟩ ?_));(all_goals(conv=>whnf))
    all_goals exact NEnd.eq leQ
   |some g=>
    have hv:vAc (elO b x)=some ⟨id,g⟩:=by unfold vAc;rw[hp];show(I3 s).map (fun g=>(⟨id,g⟩:Acc))=_;rw[hk];rfl
    rw[hk] at hO
    rw[gG ms hv] at he
    unfold elO at hO
    (repeat'((conv=>whnf);first|refine NBr.pos asQ ?_|refine NBr.no ?_|refine NIdx.tab (fun _=>rfl) hg ?_|refine NSl.slice (x.at') (x.stop) ?_|refine NCall.eq hO Da ?_|refine NApp.one vM (⟨id,g⟩:Acc) ?_|(with_reducible refine NInt.i64 ?_)|refine NFact.go ⟨by decide+kernel,by kernel_rfl⟩ ?_));(all_goals(conv=>whnf))
    refine⟨(i+1,ms++[⟨id,g⟩]),⟨by show i+1≤_;omega,by simp;omega,he⟩,by show l.length-(i+1)<l.length-i;omega,?_⟩
    exact leQ
 ·have gi:decide ((i:Int)<l.length)=false:=decide_eq_false (by omega)
  obtain rfl:i=l.length:=by omega
  rw[List.drop_length,Dg] at he
  have he':q=(some ms,0):=by rw[he];simp[Us]
  subst he'
  cases ms with
  |nil=>
   (repeat'((conv=>whnf);first|refine NBr.neg asQ ?_|refine NBr.yes ?_));(all_goals(conv=>whnf))
   all_goals exact NEnd.eq leQ
  |cons m r=>
   (repeat'((conv=>whnf);first|refine NBr.neg asQ ?_|refine NBr.no ?_));(all_goals(conv=>whnf))
   all_goals exact NEnd.eq leQ
theorem Gs (b:List UInt8) (hb:b.length≤800000):Aa Tryz.prog 11 [.d (Ac false b)] (fun r=>r=J3 b):=by
 have hA:=T7
 have hP:=oI b hb
 unfold J3 at hP⊢
 by_cases h1:(Au b 0 16).code≠0
 ·rw[if_pos h1] at hP⊢
  generalize (Au b 0 16).code=c at hP
  generalize (Au b 0 16).off=o at hP
  refine acQ 9 Tryz.func11 rfl rfl fun _ _ _=> ?_
  (repeat'((conv=>whnf);first|refine NCall.eq hA rfl ?_|refine NCall.eq hP Da ?_));(all_goals(conv=>whnf))
  all_goals exact NEnd.eq leQ
 rw[if_neg h1] at hP⊢
 generalize Dg b (Au b 0 16).l=q at hP⊢
 obtain⟨o,p⟩:=q
 match o with
 |none=>
  replace hP:Aa Tryz.prog 23 [adA,.d (Ac false b)] (fun r=>r= .tup [Ap,erA 6 p]):=hP
  show Aa _ _ _ (fun r=>r= .tup [Ap,erA 6 p])
  refine acQ 9 Tryz.func11 rfl rfl fun _ _ _=> ?_
  (repeat'((conv=>whnf);first|refine NCall.eq hA rfl ?_|refine NCall.eq hP Da ?_));(all_goals(conv=>whnf))
  all_goals exact NEnd.eq leQ
 |some []=>
  replace hP:Aa Tryz.prog 23 [adA,.d (Ac false b)] (fun r=>r= .tup [Ap,erA 1 b.length]):=hP
  show Aa _ _ _ (fun r=>r= .tup [Ap,erA 1 b.length])
  refine acQ 9 Tryz.func11 rfl rfl fun _ _ _=> ?_
  (repeat'((conv=>whnf);first|refine NCall.eq hA rfl ?_|refine NCall.eq hP Da ?_));(all_goals(conv=>whnf))
  all_goals exact NEnd.eq leQ
 |some (m::r)=>
  replace hP:Aa Tryz.prog 23 [adA,.d (Ac false b)] (fun r'=>r'= .tup [.d (N8 (m::r)),erA 0 0]):=hP
  show Aa _ _ _ (fun r'=>r'= .tup [.d (N8 (m::r)),erA 0 0])
  refine acQ 9 Tryz.func11 rfl rfl fun _ _ _=> ?_
  (repeat'((conv=>whnf);first|refine NCall.eq hA rfl ?_|refine NCall.eq hP Da ?_));(all_goals(conv=>whnf))
  all_goals exact NEnd.eq leQ
def Pn:List (List UInt8)→Option (List Acc)
 |[]=>some []
 |p::r=>match vAc p with
  |none=>none
  |some m=>(Pn r).map (m:: ·)
theorem Qk (b:List UInt8):∀l:List El,(Dg b l).1=Pn (l.map (elO b))
 |[]=>rfl
 |x::r=>by
  have ih:=Qk b r
  rw[Dg,List.map_cons,Pn]
  cases hv:vAc (elO b x) with
  |none=>rfl
  |some m=>
   simp only
   rw[←ih]
   cases hp:Dg b r with
   |mk o p=>cases o<;>rfl
theorem vP {a:Acc} (h:a.mid) (hw:gnW a.g=true):∃x y:Tv,x.ok∧y.ok∧x.enc=Ae 0 6 false (Am a.m)∧x.v=Am a.m∧(x.el 0).isB 0 6 false=true∧y.enc=gnE a.g∧acE a=Ae 0 16 true (Dk [x,y])∧(Dk [x,y]).length≤2147483600:=by
 have k1:=F6 a.m
 have o1:=h.o
 have k3:=Ms h.g
 obtain⟨y,yo,ye⟩:=EP hw h.g
 obtain⟨x,hx⟩:∃x:Tv,x=⟨0,6,false,Am a.m⟩:=⟨_,rfl⟩
 have xo:x.ok:=by subst hx;exact⟨by show(0:Nat)≤3;omega,by show(6:Nat)≤30;omega,by show(Am a.m).length≤_;omega⟩
 have xe:x.enc=Ae 0 6 false (Am a.m):=by subst hx;rfl
 have xv:x.v=Am a.m:=by subst hx;rfl
 have xi:(x.el 0).isB 0 6 false=true:=by subst hx;rfl
 have e:Dk [x,y]=Ae 0 6 false (Am a.m)++gnE a.g:=by
  rw[A3,A3,xe,←ye]
  show _++(_++[])=_
  rw[List.append_nil]
 refine⟨x,y,xo,yo,xe,xv,xi,ye.symm,by rw[e];rfl,?_⟩
 have:=Aj 0 6 false (Am a.m) (by omega)
 rw[e,List.length_append];omega
theorem AF {a:Acc} (h:acV a=true) (hs:a.mid):vAc (acE a)=some a:=by
 obtain⟨h1,h2⟩:=R3 h
 obtain⟨x,y,xo,yo,-,xv,xi,ye,e,hl⟩:=vP hs h2
 have hp:=Pe x y xo yo hl
 obtain⟨e1,e2⟩:=Nt h1
 rw[xv,if_pos ⟨xi,e2⟩,e1,ye] at hp
 unfold vAc
 rw[e,hp]
 show(I3 (gnE a.g)).map (fun g=>(⟨a.m,g⟩:Acc))=some a
 rw[bT h2 hs.g];rfl
theorem AG {p:List UInt8} {a:Acc} (h:vAc p=some a) (hl:p.length≤800000):acV a=true∧p=acE a:=by
 unfold vAc at h
 cases hp:Nb p with
 |none=>rw[hp] at h;cases h
 |some w=>
  obtain⟨id,s⟩:=w
  rw[hp] at h
  have h':(I3 s).map (fun g=>(⟨id,g⟩:Acc))=some a:=h
  cases hg:I3 s with
  |none=>rw[hg] at h';cases h'
  |some g=>
   rw[hg] at h'
   obtain rfl:=Option.some.inj h'
   obtain⟨c0,l2⟩:=T8 hp
   obtain⟨ts,t1,t2,-,-,t5⟩:=Jw c0
   have hlt:(Dk ts).length≤2147483600:=by
    have:=congrArg List.length t2
    unfold Ae at this
    rw[C4] at this;omega
   obtain⟨q,e1,-⟩:=E0 (c:=0) (n:=16) ts (by omega) (by omega) t1 hlt
   rw[←t2] at e1
   rw[e1] at l2
   have l2':ts.length=2:=by rw[←Yk q ts];exact l2
   obtain⟨x,y,rfl⟩:∃x y,ts=[x,y]:=by
    match ts,l2' with
    |[x,y],_=>exact⟨x,y,rfl⟩
   have hpp:=Pe x y (t1 x (by simp)) (t1 y (by simp)) hlt
   rw[←t2,hp] at hpp
   by_cases hc:(x.el 0).isB 0 6 false=true∧odC x.v=0
   ·rw[if_pos hc] at hpp
    simp only[Option.some.injEq,Prod.mk.injEq] at hpp
    obtain⟨rfl,rfl⟩:=hpp
    have hyl:y.enc.length≤800000:=by
     have a1:=congrArg List.length t2
     unfold Ae at a1
     rw[C4,A3,A3,List.length_append,List.length_append] at a1
     omega
    obtain⟨g1,g2⟩:=uB hg hyl
    have hd:=X1 hc.2
    have hb:=hc.1
    unfold El.isB Tv.el at hb
    simp only[Bool.and_eq_true,beq_iff_eq] at hb
    obtain⟨⟨b1,b2⟩,b3⟩:=hb
    have hxe:x.enc=Ae 0 6 false x.v:=by rw[Tv.enc,b1,b2,b3]
    refine⟨?_,?_⟩
    ·unfold acV
     rw[hd.1,g1];rfl
    ·unfold acE
     simp only
     rw[hd.2,←g2,←hxe,t2,A3,A3]
     show Ae 0 16 true (x.enc++(y.enc++[]))=_
     rw[List.append_nil]
   ·rw[if_neg hc] at hpp;cases hpp
theorem Wr:∀{v:List Acc},v.all acV=true→(∀m∈v,m.mid)→Pn (v.map acE)=some v
 |[],_,_=>rfl
 |m::r,h,hs=>by
  rw[List.all_cons,Bool.and_eq_true] at h
  rw[List.map_cons,Pn,AF h.1 (hs m (by simp)),Wr h.2 fun k hk=>hs k (by simp[hk])];rfl
theorem Ws:∀{ps:List (List UInt8)} {v:List Acc},(∀p∈ps,p.length≤800000)→Pn ps=some v→v.all acV=true∧ps=v.map acE
 |[],v,_,h=>by
  rw[Pn] at h
  obtain rfl:=Option.some.inj h
  exact⟨rfl,rfl⟩
 |p::r,v,hl,h=>by
  rw[Pn] at h
  cases hv:vAc p with
  |none=>rw[hv] at h;cases h
  |some m=>
   rw[hv] at h
   cases hr:Pn r with
   |none=>rw[hr] at h;cases h
   |some w=>
    rw[hr] at h
    obtain rfl:=Option.some.inj h
    obtain⟨k1,k2⟩:=AG hv (hl p (by simp))
    obtain⟨k3,k4⟩:=Ws (fun q hq=>hl q (by simp[hq])) hr
    exact⟨by rw[List.all_cons,k1,k3];rfl,by rw[List.map_cons,←k2,←k4]⟩
theorem Wt {b:List UInt8}:∀{l:List El},(∀x∈l,x.at'≤b.length)→(Dg b l).2≤b.length
 |[],_=>Nat.zero_le _
 |x::r,h=>by
  have ih:=Wt (b:=b) (l:=r) fun y hy=>h y (by simp[hy])
  rw[Dg]
  cases vAc (elO b x) with
  |none=>exact h x (by simp)
  |some m=>
   cases hp:Dg b r with
   |mk o p=>
    rw[hp] at ih
    cases o with
    |none=>exact ih
    |some ms=>exact Nat.zero_le _
theorem J4 (b:List UInt8) (hb:b.length≤800000):(∃v:List Acc,v≠[]∧v.all acV=true∧b=Bd v∧J3 b= .tup [.d (N8 v),erA 0 0])∨(∃c o:Nat,c≠0∧o≤b.length∧J3 b= .tup [Ap,erA c o]):=by
 unfold J3
 by_cases h1:(Au b 0 16).code≠0
 ·rw[if_pos h1]
  exact .inr ⟨_,_,h1,Km b 0 16,rfl⟩
 rw[if_neg h1]
 have h1':=Decidable.not_not.1 h1
 obtain⟨ts,t1,t2,-,-,-⟩:=Jw h1'
 have hlt:(Dk ts).length≤800000:=by
  have:=congrArg List.length t2
  unfold Ae at this
  rw[C4] at this;omega
 obtain⟨q,e1,e2⟩:=E0 (c:=0) (n:=16) ts (by omega) (by omega) t1 (by omega)
 rw[←t2] at e1 e2
 rw[e1]
 have hf:=Qk b (els q ts)
 rw[e2] at hf
 have hoff:(Dg b (els q ts)).2≤b.length:=Wt fun x hx=>by
  have:=Ez (b:=b) (c:=0) (n:=16) (x:=x) (by rw[e1];exact hx)
  omega
 cases hp:Dg b (els q ts) with
 |mk o p=>
  rw[hp] at hf hoff
  simp only at hf hoff
  cases o with
  |none=>exact .inr ⟨6,p,by omega,hoff,rfl⟩
  |some v=>
   obtain⟨k1,k2⟩:=Ws (fun p hp=>by
    have:=F7 hp
    rw[←Fd] at this;omega) hf.symm
   cases v with
   |nil=>exact .inr ⟨1,b.length,by omega,Nat.le_refl _,rfl⟩
   |cons m r=>
    refine .inl ⟨m::r,by simp,k1,?_,rfl⟩
    rw[t2]
    unfold Bd
    rw[Fd,k2]
theorem EQ {a:Acc} (h:a.mid):∃t:Tv,t.ok∧acE a=t.enc:=by
 have k1:=F6 a.m
 have o1:=h.o
 have k2:=Aj 0 6 false (Am a.m) (by omega)
 have k3:=Ms h.g
 exact⟨⟨0,16,true,Ae 0 6 false (Am a.m)++gnE a.g⟩,⟨by show(0:Nat)≤3;omega,by show(16:Nat)≤30;omega,by show(_++_:List UInt8).length≤_;rw[List.length_append];omega⟩,rfl⟩
theorem Mv {v:List Acc} (h0:v≠[]) (h:v.all acV=true) (hs:acsM v):J3 (Bd v)= .tup [.d (N8 v),erA 0 0]:=by
 have hq:=hs.e
 obtain⟨ts,t1,t2⟩:=Rx (l:=v.map acE) fun p hp=>by
  obtain⟨m,hm,rfl⟩:=List.mem_map.1 hp
  exact EQ (hs.m m hm)
 have hfl:(v.map acE).flatten=Dk ts:=by rw[t2,Fd]
 obtain⟨q,e1,e2⟩:=E0 (c:=0) (n:=16) ts (by omega) (by omega) t1 (by rw[←hfl];omega)
 have hf:=Qk (Ae 0 16 true (Dk ts)) (els q ts)
 rw[e2,←t2,Wr h hs.m] at hf
 unfold J3 Bd
 rw[hfl,e1,if_neg (by simp)]
 cases hp:Dg (Ae 0 16 true (Dk ts)) (els q ts) with
 |mk o p=>
  rw[hp] at hf
  simp only at hf
  subst hf
  cases v with
  |nil=>exact absurd rfl h0
  |cons m r=>rfl
theorem Ut {v:List Acc} (h:(v.map acE).flatten.length≤800000000):(v.map acE).flatten.length+2≤(Bd v).length∧(Bd v).length≤(v.map acE).flatten.length+6:=by
 have:=Df 0 16 true (v.map acE).flatten
 have:=Aj 0 16 true (v.map acE).flatten (by omega)
 exact⟨by unfold Bd;omega,by unfold Bd;omega⟩
theorem vQ (a:Acc):(Am a.m).length+(gnE a.g).length+4≤(acE a).length:=by
 have h1:=Df 0 6 false (Am a.m)
 have h2:=Df 0 16 true (Ae 0 6 false (Am a.m)++gnE a.g)
 rw[List.length_append] at h2
 unfold acE;omega
theorem AH {a:Acc} (h:acV a=true) (hl:(acE a).length≤400000):a.mid:=by
 obtain⟨h1,h2⟩:=R3 h
 have k1:=vQ a
 have k2:=O4 h1
 exact⟨by omega,AB h2 (by omega)⟩
theorem Po {l:List Acc} (h:l.all acV=true) (hl:(l.map acE).flatten.length≤400000):acsM l:=by
 have hc:=Pl acE 4 (l:=l) fun a _=>by have:=vQ a;omega
 exact⟨by omega,fun a ha=>AH (List.all_eq_true.1 h a ha) (by
  have:=F7 (p:=acE a) (l:=l.map acE) (List.mem_map_of_mem ha)
  omega),by omega⟩
theorem cD {a:Acc} (h:U7 a=true):a.mid∧(acE a).length≤23610:=by
 unfold U7 at h
 simp only[Bool.and_eq_true,decide_eq_true_eq] at h
 obtain⟨g1,g2⟩:=AA h.1
 have k1:=F6 a.m
 have k2:=Aj 0 6 false (Am a.m) (by omega)
 have k4:=Aj 0 16 true (Ae 0 6 false (Am a.m)++gnE a.g) (by rw[List.length_append];omega)
 rw[List.length_append] at k4
 exact⟨⟨by omega,g1⟩,by unfold acE;omega⟩
theorem Kt {l:List Acc} (h:H5 l=true):l.length≤6∧acsM l∧(l.map acE).flatten.length≤141660:=by
 unfold H5 at h
 simp only[Bool.and_eq_true,decide_eq_true_eq] at h
 obtain⟨h1,h2⟩:=h
 rw[List.take_of_length_le (by omega)] at h1
 have hf:∀{r:List Acc},r.all U7=true→(r.map acE).flatten.length≤23610*r.length:=by
  intro r
  induction r with
  |nil=>intro _;simp
  |cons a r ih=>
   intro h
   rw[List.all_cons,Bool.and_eq_true] at h
   have:=(cD h.1).2
   have:=ih h.2
   rw[List.map_cons,List.flatten_cons,List.length_append,List.length_cons];omega
 have:=hf h1
 exact⟨h2,⟨by omega,fun a ha=>(cD (List.all_eq_true.1 h1 a ha)).1,by omega⟩,by omega⟩
def Gt (k:Tr):Acc:=⟨odT (k.kid 0).v,A1 (k.kid 1)⟩
def vR (a:Acc):List D:=sD a.m::zY a.g
def AI (l:List Acc):D:=Gk true 10 vR l
theorem jX (l:List Acc):D.uns (l.flatMap vR)=l.flatMap Ye:=by
 induction l with
 |nil=>rfl
 |cons a r ih=>
  rw[List.flatMap_cons,D.uns_app,ih,List.flatMap_cons]
  show D.un (sD a.m)::D.uns (zY a.g)++_=_
  rw[jT];rfl
theorem Pp (l:List Acc):(AI l).un=Cb l:=by
 show D.sl false l.length 10 (D.uns (l.flatMap vR))=_
 rw[jX];rfl
structure Acc.zz (a:Acc):Prop where
 o:a.m.length≤3000000
 g:a.g.zz
structure acsZ (l:List Acc):Prop where
 n:l.length≤100000
 z:∀a∈l,a.zz
 c:∀a∈l,(gnE a.g).length≤70000000
 e:(l.map acE).flatten.length≤90000000
theorem Ed {p:Prop} (h:p:=by first|rfl|(simp only[AV.gives,AV.ren,AV.give,D.un,D.uns,Ag,Ah,List.nil_append,List.append_nil,List.cons_append,Al,Av,Bt,Az,Ar,Bf,Bx,D7,D1,C8,Cc,B6,Bg,Tr.cellss_un,Pp,jX,jT];first|done|rfl)):p:=h
theorem cE (l:List Acc) (hl:l.length≤100000) (hs:∀a∈l,a.zz):Aa Tryz.prog 18 [.d (Cb l)] (fun r=>r=bv (K1 l)):=by
 unfold K1
 refine acQ 29 Tryz.func18 rfl rfl fun _ _ _=> ?_
 (all_goals(conv=>whnf))
 refine NLoop.go (fun i:Nat=>i≤l.length∧(l.take i).all acV=true) (fun i=>l.length-i) (fun i=>⟨[(0,.d (Cb l)),(3,iv i)],[],[]⟩) 0 ⟨by omega,rfl⟩ leQ ?_
 rintro i ⟨hi,ha⟩
 by_cases hik:i<l.length
 ·have gi:decide ((i:Int)<l.length)=true:=decide_eq_true (by omega)
  obtain⟨x,hg⟩:∃p,l[i]?=some p:=⟨_,List.getElem?_eq_getElem hik⟩
  have hz:=hs x (List.mem_of_getElem? hg)
  have hO:=Gw x.m (by have:=hz.o;omega)
  have hV:=Es x.g hz.g
  have bad:acV x=false→(!l.isEmpty&&l.all acV)=false:=fun h=>by rw[EN acV hg h,Bool.and_false]
  cases h1:C9 x.m
  ·rw[h1] at hO
   rw[bad (by unfold acV;rw[h1,Bool.false_and])]
   (repeat'((conv=>whnf);first|refine NBr.pos asQ ?_|refine NBr.yes ?_|refine NIdx.tab (fun _=>rfl) hg ?_|refine NCall.eq hO rfl ?_));(all_goals(conv=>whnf))
   all_goals exact NEnd.eq leQ
  rw[h1] at hO
  cases h2:gnW x.g
  ·rw[h2] at hV
   rw[bad (by unfold acV;rw[h2,Bool.and_false])]
   (repeat'((conv=>whnf);first|refine NBr.pos asQ ?_|refine NBr.yes ?_|refine NBr.no ?_|refine NIdx.tab (fun _=>rfl) hg ?_|refine NCall.eq hO rfl ?_|refine NCall.eq hV Ed ?_));(all_goals(conv=>whnf))
   all_goals exact NEnd.eq leQ
  ·rw[h2] at hV
   (repeat'((conv=>whnf);first|refine NBr.pos asQ ?_|refine NBr.no ?_|refine NIdx.tab (fun _=>rfl) hg ?_|refine NCall.eq hO rfl ?_|refine NCall.eq hV Ed ?_|(with_reducible refine NInt.i64 ?_)));(all_goals(conv=>whnf))
   refine⟨i+1,⟨by omega,Fr acV hg (by unfold acV;rw[h1,h2];rfl) ha⟩,by omega,?_⟩
   exact leQ
 ·have gi:decide ((i:Int)<l.length)=false:=decide_eq_false (by omega)
  obtain rfl:i=l.length:=by omega
  rw[List.take_length] at ha
  rw[ha,Bool.and_true,show(!l.isEmpty)=decide ((l.length:Int)>0) by cases l with|nil=>rfl|cons a r=>exact(decide_eq_true (by simp only[List.length_cons];omega)).symm]
  (repeat'((conv=>whnf);refine NBr.neg asQ ?_));(all_goals(conv=>whnf))
  all_goals exact NEnd.eq leQ
theorem cF (l:List Acc) (hz:acsZ l):Aa Tryz.prog 16 [.d (Cb l)] (fun r=>r=fZ (K1 l) (Bd l)):=by
 obtain⟨hl,hs,hc,hq⟩:=hz
 have hV:=cE l hl hs
 cases hw:K1 l
 ·rw[hw] at hV
  refine acQ 40 Tryz.func16 rfl rfl fun _ _ _=> ?_
  (repeat'((conv=>whnf);first|refine NBr.yes ?_|refine NCall.eq hV Ed ?_));(all_goals(conv=>whnf))
  all_goals exact NEnd.eq leQ
 rw[hw] at hV
 have hS:=Fp 48 (l.map acE) (by rw[List.length_map];omega) (by omega)
 have e48:Ji 48 (l.map acE).flatten=Bd l:=rfl
 rw[e48] at hS
 show Aa _ _ _ (fun r=>r= .tup [As 0 5 (Bd l),iv 0])
 refine acQ 40 Tryz.func16 rfl rfl fun _ _ _=> ?_
 (repeat'((conv=>whnf);first|refine NBr.no ?_|refine NCall.eq hV Ed ?_));(all_goals(conv=>whnf))
 refine NLoop.goA [.s 4 1 26] (fun i:Nat=>i≤l.length) (fun i=>l.length-i) (fun i=>⟨[(0,.d (Cb l)),(4,B6 4 1 26 Fc ((l.take i).map acE)),(5,iv i)],[],[(4,(((l.take i).map acE).length,1,26))]⟩) 0 (by omega) leQ ?_
 rintro i hi
 have hml:((l.take i).map acE).length≤100000:=by rw[List.length_map,List.length_take];omega
 by_cases hik:i<l.length
 ·have gi:decide ((i:Int)<l.length)=true:=decide_eq_true (by omega)
  obtain⟨a,hg⟩:∃p,l[i]?=some p:=⟨_,List.getElem?_eq_getElem hik⟩
  have hza:=hs a (List.mem_of_getElem? hg)
  have o1:=hza.o
  have hM:=vB a.g hza.g
  rw[(R3 (List.all_eq_true.1 (C6.1 hw).2 a (List.mem_of_getElem? hg))).2] at hM
  have hM:Aa Tryz.prog 27 [gnA a.g] (fun r=>r= .tup [As 0 5 (gnE a.g),iv 0]):=hM
  have k1:=F6 a.m
  have k2:=Aj 0 6 false (Am a.m) (by omega)
  have k3:=hc a (List.mem_of_getElem? hg)
  have hO:=Ny a.m (by omega)
  rw[yT] at hO
  have hQ:=Fp 48 [Ae 0 6 false (Am a.m),gnE a.g] (by simp) (by simp;omega)
  rw[show Ji 48 [Ae 0 6 false (Am a.m),gnE a.g].flatten=acE a by unfold acE;simp;rfl] at hQ
  have hs':=F8 acE hg
  generalize acE a=e at hQ hs'
  generalize gnE a.g=e2 at hM hQ
  (repeat'((conv=>whnf);first|refine NBr.pos asQ ?_|refine NIdx.tab (fun _=>rfl) hg ?_|refine NCall.eq hM Ed ?_|refine NCall.eq hO rfl ?_|refine NCall.eq hQ Ed ?_|refine NApp.one Fc e ?_|(with_reducible refine NInt.i64 ?_)));(all_goals(conv=>whnf))
  refine⟨i+1,by omega,by omega,?_⟩
  rw[hs']
  exact leQ
 ·have gi:decide ((i:Int)<l.length)=false:=decide_eq_false (by omega)
  obtain rfl:i=l.length:=by omega
  rw[List.take_length]
  (repeat'((conv=>whnf);first|refine NBr.neg asQ ?_|refine NCall.eq hS Ed ?_));(all_goals(conv=>whnf))
  all_goals exact NEnd.eq leQ
theorem vS (t:Tr) (hn:t.ks.length≤100000) (hk:∀k∈t.ks,(k.kid 0).v.length≤30000∧(k.kid 1).gn):Aa Tryz.prog 26 [trF t] (fun r=>r= .d (AI (t.ks.map Gt))):=by
 obtain⟨c,n,k,b,ks⟩:=t
 rw[Bn]
 simp only[Tr.ks] at hn hk⊢
 refine acQ 31 Tryz.func26 rfl rfl fun _ _ _=> ?_
 (all_goals(conv=>whnf))
 refine NLoop.goA [.s 3 10 49] (fun i:Nat=>i≤ks.length) (fun i=>ks.length-i) (fun i=>⟨[(1,.ptr 1 0),(3,B6 3 10 49 vR ((ks.take i).map Gt)),(4,iv i)],[(1,[iv c,iv n,bv k,.d (Ac false b),.d (.sl false ks.length 5 (Tr.cellss false ks))])],[(3,(((ks.take i).map Gt).length,10,49))]⟩) 0 (by omega) leQ ?_
 rintro i hi
 have hml:((ks.take i).map Gt).length≤100000:=by rw[List.length_map,List.length_take];omega
 by_cases hik:i<ks.length
 ·have gi:decide ((i:Int)<ks.length)=true:=decide_eq_true (by omega)
  obtain⟨x,hg⟩:∃p,ks[i]?=some p:=⟨_,List.getElem?_eq_getElem hik⟩
  obtain⟨h1,h2⟩:=hk x (List.mem_of_getElem? hg)
  have hs:=F8 Gt hg
  have q0:=Gx x 0 (by omega)
  have q1:=Gx x 1 (by omega)
  have hO:=Ip (x.kid 0) h1
  have hR:=vC (x.kid 1) h2
  have hx:Gt x=⟨odT (x.kid 0).v,A1 (x.kid 1)⟩:=rfl
  generalize odT (x.kid 0).v=od at hO hx
  generalize A1 (x.kid 1)=gg at hR hx
  generalize x.kid 0=y at q0 hO
  generalize x.kid 1=z at q1 hR
  obtain⟨c',n',k',b',ks'⟩:=x
  obtain⟨c0,n0,k0,b0,ks0⟩:=y
  obtain⟨c1,n1,k1,b1,ks1⟩:=z
  rw[Bn] at q0 q1 hO hR
  rw[Bn] at q0 q1
  (repeat'((conv=>whnf);first|refine NBr.pos asQ ?_|(refine NIdx.trs hg ?_)|refine NCall.eq q0 Ed ?_|refine NCall.eq q1 Ed ?_|refine NCall.eq hO Ed ?_|refine NCall.eq hR Ed ?_|refine NApp.one vR (⟨od,gg⟩:Acc) ?_|(with_reducible refine NInt.i64 ?_)|refine NFact.go ⟨by decide+kernel,by kernel_rfl⟩ ?_));(all_goals(conv=>whnf))
  refine⟨i+1,by omega,by omega,?_⟩
  rw[hs,hx]
  exact leQ
 ·have gi:decide ((i:Int)<ks.length)=false:=decide_eq_false (by omega)
  obtain rfl:i=ks.length:=by omega
  rw[List.take_length]
  (repeat'((conv=>whnf);refine NBr.neg asQ ?_));(all_goals(conv=>whnf))
  all_goals exact NEnd.eq leQ
def Uu (b:List UInt8) (v:List Acc):Bool:=K1 v&&(Bd v==b)
theorem vT {b:List UInt8} (hb:b.length≤3000):(Ci b).ks.length≤100000∧(∀k∈(Ci b).ks,(k.kid 0).v.length≤30000∧(k.kid 1).gn)∧acsZ ((Ci b).ks.map Gt)∧(Bd ((Ci b).ks.map Gt)).length≤800000000:=by
 obtain⟨s1,s2⟩:=zZ hb
 have hk:=Nc s1
 have hc:=Tr.encs_two (Ci b).ks
 have hp:=(Ci b).parts
 have one:∀k∈(Ci b).ks,(Gt k).zz∧(gnE (Gt k).g).length≤70000000∧(acE (Gt k)).length≤2000*k.enc.length:=fun k hm=>by
  obtain⟨k1,k2⟩:=hk k hm
  obtain⟨a1,a2⟩:=H6 k1 0
  obtain⟨b1,b2⟩:=H6 k1 1
  have v0:=J2 k1 0
  have h1:=Mr (k.kid 0).v
  have h5:=F6 (odT (k.kid 0).v)
  have h6:=Aj 0 6 false (Am (odT (k.kid 0).v)) (by omega)
  have h7:=vH b1 (by omega)
  have h8:=Aj 0 16 true (Ae 0 6 false (Am (odT (k.kid 0).v))++gnE (A1 (k.kid 1))) (by rw[List.length_append];omega)
  rw[List.length_append] at h8
  have h9:=k.enc_two
  refine⟨⟨by show(odT _).length≤_;omega,jS b1 (by omega)⟩,by show(gnE (A1 _)).length≤_;omega,?_⟩
  show(Ae 0 16 true (Ae 0 6 false (Am (odT (k.kid 0).v))++gnE (A1 (k.kid 1)))).length≤_
  omega
 have hm:=Uo (f:=fun k=>acE (Gt k)) (C:=2000) (l:=(Ci b).ks) fun k hm=>(one k hm).2.2
 have hf:(((Ci b).ks.map Gt).map acE).flatten.length≤2000*(Tr.encs (Ci b).ks).length:=by rw[List.map_map];exact hm
 have h7:=Aj 0 16 true (((Ci b).ks.map Gt).map acE).flatten (by omega)
 refine⟨by omega,fun k hm=> ?_,⟨by rw[List.length_map];omega,fun a ha=> ?_,fun a ha=> ?_,by omega⟩,by unfold Bd;omega⟩
 ·obtain⟨k1,k2⟩:=hk k hm
  obtain⟨b1,b2⟩:=H6 k1 1
  have v0:=J2 k1 0
  exact⟨by omega,FT b1 (by omega)⟩
 ·obtain⟨k,hm,rfl⟩:=List.mem_map.1 ha
  exact(one k hm).1
 ·obtain⟨k,hm,rfl⟩:=List.mem_map.1 ha
  exact(one k hm).2.1
theorem cG (b:List UInt8) (hb:b.length≤3000):Aa Tryz.prog 15 [.d (Ac false b)] (fun r=>r=if Uu b ((Ci b).ks.map Gt)=true then .tup [.d (AI ((Ci b).ks.map Gt)),bv true] else .tup [Ap,bv false]):=by
 obtain⟨g1,g2,g3,g4⟩:=vT hb
 have hD:=sV b (by omega)
 have hR:=vS (Ci b) g1 g2
 have hM:=cF _ g3
 have hB:=By false false (Bd ((Ci b).ks.map Gt)) b (by omega) (by omega)
 unfold Uu
 clear g3
 generalize Bd ((Ci b).ks.map Gt)=E at hM hB g4⊢
 generalize K1 ((Ci b).ks.map Gt)=W at hM⊢
 generalize (Ci b).ks.map Gt=v at hR hM⊢
 clear g1 g2 g4
 generalize Ci b=t at hD hR
 generalize ((Ck 60 b).code==0)=q at hD
 obtain⟨c,n,k,b',ks⟩:=t
 rw[Bn] at hR
 rw[Yd rfl] at hD
 cases W with
 |false=>
  have hM:Aa Tryz.prog 16 [.d (Cb v)] (fun r=>r= .tup [Ap,iv 8]):=hM
  rw[Bool.false_and]
  refine acQ 30 Tryz.func15 rfl rfl fun _ _ _=> ?_
  (repeat'((conv=>whnf);first|refine NBr.yes ?_|refine NCall.eq hD Ed ?_|refine NCall.eq hR Ed ?_|refine NCall.eq hM Ed ?_));(all_goals(conv=>whnf))
  all_goals exact NEnd.eq leQ
 |true=>
  have hM:Aa Tryz.prog 16 [.d (Cb v)] (fun r=>r= .tup [As 0 5 E,iv 0]):=hM
  rw[Bool.true_and]
  cases hq:(E==b)
  all_goals
   rw[hq] at hB
   clear hq
   refine acQ 30 Tryz.func15 rfl rfl fun _ _ _=> ?_
   (repeat'((conv=>whnf);first|refine NBr.yes ?_|refine NBr.no ?_|refine NCall.eq hD Ed ?_|refine NCall.eq hR Ed ?_|refine NCall.eq hM Ed ?_|refine NCall.eq hB Ed ?_));(all_goals(conv=>whnf))
   all_goals exact NEnd.eq leQ
theorem Uv {v:List Acc} (h:v.all acV=true) (hs:acsM v):(Ci (Bd v)).ks.map Gt=v:=by
 have he:=hs.e
 have one:∀a∈v,One 21 (acE a)∧Gt (trD 21 (acE a))=a∧(acE a).length≤2147483600:=fun a ha=>by
  obtain⟨h1,h2⟩:=R3 (List.all_eq_true.1 h a ha)
  have hm:=hs.m a ha
  have k0:=hm.o
  have k1:=F6 a.m
  have k2:=Aj 0 6 false (Am a.m) (by omega)
  have k3:=Ms hm.g
  obtain⟨b1,b2⟩:=Pd (d:=19) (c:=0) (n:=6) (Am a.m) (by omega) (by omega) (by omega)
  obtain⟨t,t1,t2,-⟩:=DK h2 hm.g
  obtain⟨c1,c2⟩:=Um (d:=20) (c:=0) (n:=16) (by omega) (by omega) b1 t1.1 (by omega)
  have hle:=AD hm
  refine⟨c1,?_,by omega⟩
  have e:trD 21 (acE a)= .mk 0 16 true [] [trD 20 (Ae 0 6 false (Am a.m)),trD 20 (gnE a.g)]:=c2
  rw[e]
  show(⟨odT (trD 20 (Ae 0 6 false (Am a.m))).v,A1 (trD 20 (gnE a.g))⟩:Acc)=a
  rw[b2,t1.2,t2]
  obtain⟨am,ag⟩:=a;show(⟨odT (Am am),ag⟩:Acc)=_;rw[(Nt h1).1]
 obtain⟨c1,c2⟩:=Pc (d:=21) (c:=0) (n:=16) (v.map acE) (by omega) (by omega) (fun p hp=>by
  obtain⟨a,ha,rfl⟩:=List.mem_map.1 hp
  exact⟨(one a ha).1,by have:=(one a ha).2.2;omega⟩) (by omega)
 unfold Bd
 rw[uX (d:=22) ⟨c1,c2⟩ (by omega)]
 show(((v.map acE).map (trD 21)).map Gt)=v
 rw[List.map_map,List.map_map]
 conv=>rhs;rw[←List.map_id v]
 exact List.map_congr_left fun a ha=>(one a ha).2.1
theorem vU {l m:List Acc} (h1:l.all acV=true) (h2:m.all acV=true) (s1:acsM l) (s2:acsM m) (e:Bd l=Bd m):l=m:=by
 have a:=Uv h1 s1
 have b:=Uv h2 s2
 rw[e,b] at a
 exact a.symm
theorem cH {b:List UInt8} {c o:Nat} (h:J3 b= .tup [Ap,erA c o]) (hc:c≠0) (hb:b.length≤3000):Uu b ((Ci b).ks.map Gt)=false:=by
 cases hr:Uu b ((Ci b).ks.map Gt) with
 |false=>rfl
 |true=>
  generalize (Ci b).ks.map Gt=v at hr
  unfold Uu at hr
  rw[Bool.and_eq_true,beq_iff_eq,C6] at hr
  obtain⟨⟨h0,h1⟩,h2⟩:=hr
  have hl:(v.map acE).flatten.length≤400000:=by
   have:=Df 0 16 true (v.map acE).flatten
   have:=congrArg List.length h2
   unfold Bd at this;omega
  have:=Mv h0 h1 (Po h1 hl)
  rw[h2,h] at this
  cases c with
  |zero=>exact absurd rfl hc
  |succ c=>cases this
theorem Wu {b:List UInt8} {v:List Acc} (h0:v≠[]) (hw:v.all acV=true) (he:b=Bd v) (hb:b.length≤3000):acsM v∧(Ci b).ks.map Gt=v∧Uu b v=true:=by
 have hl:(v.map acE).flatten.length≤400000:=by
  have:=Df 0 16 true (v.map acE).flatten
  have:=congrArg List.length he
  unfold Bd at this;omega
 have hm:=Po hw hl
 refine⟨hm,by rw[he];exact Uv hw hm,?_⟩
 unfold Uu
 rw[C6.2 ⟨h0,hw⟩,he,beq_self_eq_true];rfl
deriving instance DecidableEq for Acc
abbrev Acc.qs (a:Acc):Prop:=a.g.eqs
theorem ER {m k:Acc} (h1:m.m=k.m) (h2:m.g=k.g):m=k:=by cases m;cases k;cases h1;cases h2;rfl
theorem vV {p:Prop} (h:p:=by first|rfl|(simp only[AV.gives,AV.ren,AV.give,D.un,D.uns,Ag,Ah,List.nil_append,List.append_nil,List.cons_append,Al,Av,Bt,Az,Ar,Bf,Bx,D7,D1];first|done|rfl)):p:=h
theorem H9 (a b:List Acc) (ha:a.length≤1000000∧∀p∈a,p.qs) (hb:b.length≤1000000∧∀p∈b,p.qs):Aa Tryz.prog 12 [.d (Cb a),.d (Cb b)] (fun r=>r=bv (decide (a=b))):=by
 obtain⟨ha,hpa⟩:=ha
 obtain⟨hb,hpb⟩:=hb
 refine acQ 48 Tryz.func12 rfl rfl fun _ _ _=> ?_
 (all_goals(conv=>whnf))
 refine NLoop.go (fun i:Nat=>i≤a.length∧i≤b.length∧a.take i=b.take i) (fun i=>a.length-i) (fun i=>⟨[(0,.d (Cb a)),(1,.d (Cb b)),(5,iv i)],[],[]⟩) 0 ⟨by omega,by omega,rfl⟩ leQ ?_
 rintro i ⟨hi,hj,ht⟩
 by_cases hik:i<a.length∧i<b.length
 ·obtain⟨k1,k2⟩:=hik
  have g1:decide ((i:Int)<a.length)=true:=decide_eq_true (by omega)
  have g2:decide ((i:Int)<b.length)=true:=decide_eq_true (by omega)
  obtain⟨x,hx⟩:∃p,a[i]?=some p:=⟨_,List.getElem?_eq_getElem k1⟩
  obtain⟨y,hy⟩:∃p,b[i]?=some p:=⟨_,List.getElem?_eq_getElem k2⟩
  have hS:=Cz x.g y.g (hpa x (List.mem_of_getElem? hx)) (hpb y (List.mem_of_getElem? hy))
  cases hq:(x.m==y.m)
  ·have hne:(!(x.m==y.m))=true:=by rw[hq];rfl
   rw[decide_eq_false (jA hx hy (fun e=>by rw[e] at hq;simp at hq))]
   (repeat'((conv=>whnf);first|refine NBr.pos asQ ?_|refine NBr.yes ?_|refine NIdx.tab (fun _=>rfl) hx ?_|refine NIdx.tab (fun _=>rfl) hy ?_|refine NFact.go ⟨by decide+kernel,by kernel_rfl⟩ ?_));(all_goals(conv=>whnf))
   all_goals exact NEnd.eq leQ
  ·have hne:(!(x.m==y.m))=false:=by rw[hq];rfl
   have hxy:x.m=y.m:=by simpa using hq
   by_cases hv:x.g=y.g
   ·rw[decide_eq_true hv] at hS
    have he:=ER hxy hv
    (repeat'((conv=>whnf);first|refine NBr.pos asQ ?_|refine NBr.neg asQ ?_|refine NBr.yes ?_|refine NBr.no ?_|refine NIdx.tab (fun _=>rfl) hx ?_|refine NIdx.tab (fun _=>rfl) hy ?_|refine NCall.eq hS vV ?_|(with_reducible refine NInt.i64 ?_)|refine NFact.go ⟨by decide+kernel,by kernel_rfl⟩ ?_));(all_goals(conv=>whnf))
    refine⟨i+1,⟨by omega,by omega,Yh ht hx (he▸hy)⟩,by omega,?_⟩
    exact leQ
   ·rw[decide_eq_false hv] at hS
    rw[decide_eq_false (jA hx hy (fun e=>hv (by rw[e])))]
    (repeat'((conv=>whnf);first|refine NBr.pos asQ ?_|refine NBr.neg asQ ?_|refine NBr.yes ?_|refine NIdx.tab (fun _=>rfl) hx ?_|refine NIdx.tab (fun _=>rfl) hy ?_|refine NCall.eq hS vV ?_|refine NFact.go ⟨by decide+kernel,by kernel_rfl⟩ ?_));(all_goals(conv=>whnf))
    all_goals exact NEnd.eq leQ
 ·by_cases he:a.length=b.length
  ·have:=fT ht hik hi hj he
   subst this
   have g1:decide ((i:Int)<a.length)=false:=decide_eq_false (by omega)
   rw[decide_eq_true rfl]
   (repeat'((conv=>whnf);first|refine NBr.neg asQ ?_|refine NBr.no ?_));(all_goals(conv=>whnf))
   all_goals(refine NEnd.eq ?_;(repeat'(first|refine And.intro ?_ ?_|exact rfl));(all_goals(conv=>whnf)))
   all_goals simp
  ·rw[decide_eq_false (fun e=>he (by rw[e]))]
   have g3:((a.length:Int)==b.length)=false:=by rw[beq_eq_false_iff_ne];omega
   by_cases k1:i<a.length
   ·have g1:decide ((i:Int)<a.length)=true:=decide_eq_true (by omega)
    have g2:decide ((i:Int)<b.length)=false:=decide_eq_false (by omega)
    (repeat'((conv=>whnf);first|refine NBr.pos asQ ?_|refine NBr.neg asQ ?_|refine NBr.yes ?_));(all_goals(conv=>whnf))
    all_goals(refine NEnd.eq ?_;(repeat'(first|refine And.intro ?_ ?_|exact rfl));(all_goals(conv=>whnf)))
    all_goals exact g3
   ·have g1:decide ((i:Int)<a.length)=false:=decide_eq_false (by omega)
    (repeat'((conv=>whnf);first|refine NBr.neg asQ ?_|refine NBr.no ?_));(all_goals(conv=>whnf))
    all_goals(refine NEnd.eq ?_;(repeat'(first|refine And.intro ?_ ?_|exact rfl));(all_goals(conv=>whnf)))
    all_goals exact g3
theorem acsM.q {l:List Acc} (h:acsM l):l.length≤1000000∧∀p∈l,p.qs:=⟨h.n,fun a ha=>(h.m a ha).g.s.z.q⟩
theorem vW {l:List Acc} (h:H5 l=true):acsZ l:=by
 obtain⟨h1,h2,h3⟩:=Kt h
 exact⟨by omega,fun a ha=>⟨(h2.m a ha).o,(h2.m a ha).g.s.z⟩,fun a ha=>by have:=Ms (h2.m a ha).g;omega,by omega⟩
theorem Bl {p:Prop} (h:p:=by first|rfl|(simp only[AV.gives,AV.ren,AV.give,D.un,D.uns,Ag,Ah,List.nil_append,List.append_nil,List.cons_append,Al,Av,Bt,Az,Ar,Bf,Bx,D7,D1,C8,Cc,B6,Bg,Pm,Pp];first|done|rfl)):p:=h
theorem AJ (l:List Acc) (h:l.length≤big∧∀a∈l,a.g.ok∧a.m.length≤big):Aa Tryz.prog 6 [.d (Cb l)] (fun r=>r=bv true):=by
 have hA:=Pa
 have hF:=Ly l h
 cases hf:H5 l
 ·rw[hf] at hF
  refine acQ 75 Tryz.func6 rfl rfl fun _ _ _=> ?_
  (repeat'((conv=>whnf);first|refine NBr.yes ?_|refine NBr.no ?_|refine NCall.eq hA rfl ?_|refine NCall.eq hF Bl ?_));(all_goals(conv=>whnf))
  all_goals exact NEnd.eq leQ
 rw[hf] at hF
 obtain⟨n1,hm,n3⟩:=Kt hf
 have hz:=vW hf
 have hl:=(Ut (v:=l) (by omega)).2
 have hM:=Et l hm
 have hR:=cF l hz
 have hV:=Ur l hm
 have hW:=cE l hz.n hz.z
 cases hw:K1 l
 ·rw[hw] at hM hR hV hW
  have hM:Aa Tryz.prog 10 [.d (Cb l)] (fun r=>r= .tup [Ap,iv 8]):=hM
  have hR:Aa Tryz.prog 16 [.d (Cb l)] (fun r=>r= .tup [Ap,iv 8]):=hR
  have hB:=By false false [] [] (by simp) (by simp)
  rw[beq_self_eq_true] at hB
  refine acQ 75 Tryz.func6 rfl rfl fun _ _ _=> ?_
  (repeat'((conv=>whnf);first|refine NBr.yes ?_|refine NBr.no ?_|refine NCall.eq hA rfl ?_|refine NCall.eq hF Bl ?_|refine NCall.eq hM Bl ?_|refine NCall.eq hR Bl ?_|refine NCall.eq hV Bl ?_|refine NCall.eq hW Bl ?_|refine NCall.le hB Su ?_));(all_goals(conv=>whnf))
  all_goals exact NEnd.eq leQ
 ·rw[hw] at hM hR hV hW
  have hM:Aa Tryz.prog 10 [.d (Cb l)] (fun r=>r= .tup [As 0 5 (Bd l),iv 0]):=hM
  have hR:Aa Tryz.prog 16 [.d (Cb l)] (fun r=>r= .tup [As 0 5 (Bd l),iv 0]):=hR
  obtain⟨w0,w1⟩:=C6.1 hw
  have hP:=Gs (Bd l) (by omega)
  rw[Mv w0 w1 hm] at hP
  have hP:Aa Tryz.prog 11 [.d (Ac false (Bd l))] (fun r=>r= .tup [.d (N8 l),erA 0 0]):=hP
  have hC:=H9 l l hm.q hm.q
  rw[decide_eq_true rfl] at hC
  have hB:=By false false (Bd l) (Bd l) (by omega) (by omega)
  rw[beq_self_eq_true] at hB
  generalize Bd l=b at hM hR hP hB
  refine acQ 75 Tryz.func6 rfl rfl fun _ _ _=> ?_
  (repeat'((conv=>whnf);first|refine NBr.yes ?_|refine NBr.no ?_|refine NCall.eq hA rfl ?_|refine NCall.eq hF Bl ?_|refine NCall.eq hM Bl ?_|refine NCall.eq hR Bl ?_|refine NCall.eq hV Bl ?_|refine NCall.eq hW Bl ?_|refine NCall.eq hP Bl ?_|refine NCall.eq hC Bl ?_|refine NCall.eq hB Bl ?_|refine NStep.go (mI rfl rfl (ltN rfl) rfl rfl) ?_));(all_goals(conv=>whnf))
  all_goals exact NEnd.eq leQ
theorem gH (b:List UInt8) (hb:b.length≤big):Aa Tryz.prog 7 [.d (Ac false b)] (fun r=>r=bv true):=by
 have hA:=Pa
 unfold big at hb
 by_cases h1:(b.length:Int)>3000
 ·have g1:decide ((b.length:Int)>3000)=true:=decide_eq_true h1
  refine acQ 81 Tryz.func7 rfl rfl fun _ _ _=> ?_
  (repeat'((conv=>whnf);first|refine NBr.pos asQ ?_|refine NBr.no ?_|refine NCall.eq hA rfl ?_));(all_goals(conv=>whnf))
  all_goals exact NEnd.eq leQ
 have g1:decide ((b.length:Int)>3000)=false:=decide_eq_false h1
 have hl:b.length≤3000:=by omega
 have hP:=Gs b (by omega)
 have hR:=cG b hl
 rcases J4 b (by omega) with⟨v,h0,hw,he,ho⟩|⟨c,o,hc0,hof,ho⟩
 ·obtain⟨hm,e1,e2⟩:=Wu h0 hw he hl
  rw[e1,if_pos e2] at hR
  rw[ho] at hP
  have hP:Aa Tryz.prog 11 [.d (Ac false b)] (fun r=>r= .tup [.d (N8 v),erA 0 0]):=hP
  have hM:=Et v hm
  rw[C6.2 ⟨h0,hw⟩,←he] at hM
  have hM:Aa Tryz.prog 10 [.d (Cb v)] (fun r=>r= .tup [As 0 5 b,iv 0]):=hM
  have hV:=Ur v hm
  rw[C6.2 ⟨h0,hw⟩] at hV
  have hC:=H9 v v hm.q hm.q
  rw[decide_eq_true rfl] at hC
  have hW:=fN 0 0 b.length (fun _=>rfl) (fun h=>absurd rfl h)
  have hB:=By false false b b (by omega) (by omega)
  rw[beq_self_eq_true] at hB
  refine acQ 81 Tryz.func7 rfl rfl fun _ _ _=> ?_
  (repeat'((conv=>whnf);first|refine NBr.neg asQ ?_|refine NBr.yes ?_|refine NBr.no ?_|refine NCall.eq hA rfl ?_|refine NCall.eq hP Bl ?_|refine NCall.eq hR Bl ?_|refine NCall.eq hC Bl ?_|refine NCall.eq hW rfl ?_|refine NCall.eq hM Bl ?_|refine NCall.eq hV Bl ?_|refine NCall.eq hB Bl ?_));(all_goals(conv=>whnf))
  all_goals exact NEnd.eq leQ
 ·rw[cH ho hc0 hl,if_neg (by simp)] at hR
  rw[ho] at hP
  have hP:Aa Tryz.prog 11 [.d (Ac false b)] (fun r=>r= .tup [Ap,erA c o]):=hP
  have hC:=H9 [] [] ⟨by simp,by simp⟩ ⟨by simp,by simp⟩
  rw[decide_eq_true rfl] at hC
  have hW:=fN c o b.length (fun h=>absurd h hc0) (fun _=>hof)
  have gc:((c:Int)==0)=false:=by rw[beq_eq_false_iff_ne];omega
  refine acQ 81 Tryz.func7 rfl rfl fun _ _ _=> ?_
  (repeat'((conv=>whnf);first|refine NBr.neg asQ ?_|refine NBr.yes ?_|refine NBr.no ?_|refine NCall.eq hA rfl ?_|refine NCall.eq hP Bl ?_|refine NCall.eq hR Bl ?_|refine NCall.le hC Su ?_|refine NCall.eq hW rfl ?_|(refine NBr.mk (fun hc=> ?_) (fun hc=> ?_)<;>(have hcP:=hc;(try simp only[beq_iff_eq,beq_eq_false_iff_ne,ne_eq,Bool.not_eq_true',Bool.not_eq_false'] at hcP)<;>first|(exfalso;omega)|skip))));(all_goals(conv=>whnf))
  all_goals exact NEnd.eq leQ
theorem oJ {α:Type} {l:List α} {i:Nat} {x y:α} (h:l[i]?=some y):l.set i x=l↔x=y:=by
 obtain⟨hlt,he⟩:=List.getElem?_eq_some_iff.1 h
 constructor
 ·intro e
  have:=congrArg (fun m=>m[i]?) e
  simp only[List.getElem?_set_self hlt,h,Option.some.injEq] at this
  exact this
 ·rintro rfl
  rw[←he,List.set_getElem_self]
theorem D8 {p:Prop} (h:p:=by first|rfl|(simp only[AV.gives,AV.ren,AV.give,D.un,D.uns,Ag,Ah,List.nil_append,List.append_nil,List.cons_append,Al,Av,Bt,Az,Ar,Bf,Bx,D7,D1,C8,Cc,B6,Bg,Pm,Pp];first|done|rfl)):p:=h
theorem AK (l:List Acc) (at':UInt16) (x:UInt8) (h:l.length≤big∧∀a∈l,a.g.ok∧a.m.length≤big):Aa Tryz.prog 3 [.d (Cb l),.d (.v (.int .u16 at'.toNat)),cv x.toNat] (fun r=>r=bv true):=by
 have hA:=Pa
 have hF:=Ly l h
 have hat:=at'.toNat_lt
 cases hf:H5 l
 ·rw[hf] at hF
  refine acQ 93 Tryz.func3 rfl rfl fun _ _ _=> ?_
  (repeat'((conv=>whnf);first|refine NBr.yes ?_|refine NBr.no ?_|refine NCall.eq hA rfl ?_|refine NCall.eq hF D8 ?_));(all_goals(conv=>whnf))
  all_goals exact NEnd.eq leQ
 rw[hf] at hF
 obtain⟨n1,hm,n2⟩:=Kt hf
 obtain⟨hge,n3⟩:=Ut (v:=l) (by omega)
 have hM:=Et l hm
 cases hok:K1 l
 ·rw[hok] at hM
  have hM:Aa Tryz.prog 10 [.d (Cb l)] (fun r=>r= .tup [Ap,iv 8]):=hM
  refine acQ 93 Tryz.func3 rfl rfl fun _ _ _=> ?_
  (repeat'((conv=>whnf);first|refine NBr.yes ?_|refine NBr.no ?_|refine NCall.eq hA rfl ?_|refine NCall.eq hF D8 ?_|refine NCall.eq hM D8 ?_));(all_goals(conv=>whnf))
  all_goals exact NEnd.eq leQ
 rw[hok] at hM
 have hM:Aa Tryz.prog 10 [.d (Cb l)] (fun r=>r= .tup [As 0 5 (Bd l),iv 0]):=hM
 have hpl:=Mv (C6.1 hok).1 (C6.1 hok).2 hm
 have hpos:0<(Bd l).length:=by omega
 obtain⟨y,hy⟩:∃y,(Bd l)[at'.toNat%(Bd l).length]?=some y:=⟨_,List.getElem?_eq_getElem (Nat.mod_lt _ hpos)⟩
 have hi:=Nat.mod_lt at'.toNat hpos
 have hP:=Gs ((Bd l).set (at'.toNat%(Bd l).length) x) (by rw[List.length_set];omega)
 have htwo:=J4 ((Bd l).set (at'.toNat%(Bd l).length) x) (by rw[List.length_set];omega)
 have hxy:=oJ (x:=x) hy
 have gl:(((Bd l).length:Int)==0)=false:=by rw[beq_eq_false_iff_ne];omega
 have hbl:((Bd l).set (at'.toNat%(Bd l).length) x).length=(Bd l).length:=List.length_set
 have hxi:((x.toNat:Int)==(y.toNat:Int))=decide (x=y):=by
  rw[Bool.eq_iff_iff,beq_iff_eq,decide_eq_true_eq,←UInt8.toNat_inj];omega
 generalize hb:Bd l=b at hM hpl hpos hy hi hP htwo hxy gl hbl n3
 generalize hj:at'.toNat%b.length=i at hy hi hP htwo hxy hbl
 have hrem:((at'.toNat:Int)).tmod (b.length:Int)=(i:Int):=by rw[Int.tmod_eq_emod_of_nonneg (by omega),←hj];rfl
 rcases htwo with⟨w,h0,hw,he,hp⟩|⟨c,o,hc0,ho,hp⟩
 ·have k2:=Po hw (by
   have q1:=Df 0 16 true (w.map acE).flatten
   have q2:(Bd w).length=b.length:=by rw[←he,hbl]
   unfold Bd at q2;omega)
  have hM2:=Et w k2
  rw[C6.2 ⟨h0,hw⟩,←he] at hM2
  have hM2:Aa Tryz.prog 10 [.d (Cb w)] (fun r=>r= .tup [As 0 5 (b.set i x),iv 0]):=hM2
  have hC:=H9 w l k2.q hm.q
  have hB:=By false false (b.set i x) (b.set i x) (by omega) (by omega)
  rw[beq_self_eq_true] at hB
  have hwl:decide (w=l)=decide (x=y):=by
   rw[Bool.eq_iff_iff,decide_eq_true_eq,decide_eq_true_eq,←hxy]
   constructor
   ·rintro rfl;rw[he];exact hb
   ·intro e;exact vU hw (C6.1 hok).2 k2 hm (by rw[←he,hb];exact e)
  rw[hwl] at hC
  rw[hp] at hP
  have hP:Aa Tryz.prog 11 [.d (Ac false (b.set i x))] (fun r=>r= .tup [.d (N8 w),erA 0 0]):=hP
  refine acX 93 [10] Tryz.func3 rfl rfl fun _ _ _=> ?_
  (repeat'((conv=>whnf);first|refine NBr.neg asQ ?_|refine NBr.yes ?_|refine NBr.no ?_|refine NCall.eq hA rfl ?_|refine NCall.eq hF D8 ?_|refine NStep.callX (hM) (hpos) rfl rfl rfl (ltN rfl) 2000 rfl rfl rfl D8 ?_|refine NStep.go (En rfl rfl (ltN rfl) Tryz.underlying26 rfl) ?_|refine NInt.as ((i:Int)) (hrem) ?_|refine NStep.go (Hv i rfl rfl (ltN rfl) Tryz.underlying26 tyB rfl rfl rfl hi) ?_|refine NStep.go (Hy rfl rfl (ltN rfl) rfl rfl hy) ?_|refine NStep.go (G2 rfl rfl rfl rfl rfl hi) ?_|refine NStep.frz2 7 51 2000 _ (hbl.symm) rfl rfl rfl ?_|refine NStep.call (hP) rfl rfl (ltN rfl) 4000 rfl rfl rfl D8 ?_|refine NStep.call (hM2) rfl rfl (ltN rfl) 3000 rfl rfl rfl D8 ?_|refine NCall.eq hC D8 ?_|refine NCall.eq hB D8 ?_|(with_reducible refine NInt.i64 ?_)|refine NFact.go (by first|decide|omega|(simp only[List.length_cons,List.length_nil];omega)) ?_));(all_goals(conv=>whnf))
  all_goals(refine NEnd.eq ?_;(repeat'(first|refine And.intro ?_ ?_|exact rfl));(all_goals(conv=>whnf)))
  all_goals(rw[hxi];exact beq_self_eq_true _)
 ·have hne:¬x=y:=fun e=>by
   have h1:=hxy.2 e
   rw[h1,hpl] at hp
   cases c with
   |zero=>exact hc0 rfl
   |succ c=>cases hp
  rw[hp] at hP
  have hP:Aa Tryz.prog 11 [.d (Ac false (b.set i x))] (fun r=>r= .tup [Ap,erA c o]):=hP
  have hC:=H9 [] [] ⟨by simp,by simp⟩ ⟨by simp,by simp⟩
  rw[decide_eq_true rfl] at hC
  have hW:=fN c o (b.set i x).length (fun h=>absurd h hc0) (fun _=>ho)
  have gc:((c:Int) !=0)=true:=by rw[bne_iff_ne];omega
  have gx:((x.toNat:Int) !=(y.toNat:Int))=true:=by rw[bne,hxi,decide_eq_false hne];rfl
  refine acX 93 [10] Tryz.func3 rfl rfl fun _ _ _=> ?_
  (repeat'((conv=>whnf);first|refine NBr.pos asQ ?_|refine NBr.neg asQ ?_|refine NBr.yes ?_|refine NBr.no ?_|refine NCall.eq hA rfl ?_|refine NCall.eq hF D8 ?_|refine NStep.callX (hM) (hpos) rfl rfl rfl (ltN rfl) 2000 rfl rfl rfl D8 ?_|refine NStep.go (En rfl rfl (ltN rfl) Tryz.underlying26 rfl) ?_|refine NInt.as ((i:Int)) (hrem) ?_|refine NStep.go (Hv i rfl rfl (ltN rfl) Tryz.underlying26 tyB rfl rfl rfl hi) ?_|refine NStep.go (Hy rfl rfl (ltN rfl) rfl rfl hy) ?_|refine NStep.go (G2 rfl rfl rfl rfl rfl hi) ?_|refine NStep.frz2 7 51 2000 _ (hbl.symm) rfl rfl rfl ?_|refine NStep.call (hP) rfl rfl (ltN rfl) 4000 rfl rfl rfl D8 ?_|refine NStep.go (G0 (sz:=1) rfl rfl (ltN rfl) Tryz.underlying26 rfl rfl) ?_|refine NCall.le hC Su ?_|refine NCall.eq hW rfl ?_|(with_reducible refine NInt.i64 ?_)|refine NFact.go (by first|decide|omega|(simp only[List.length_cons,List.length_nil];omega)) ?_));(all_goals(conv=>whnf))
  all_goals exact NEnd.eq leQ
theorem jY {l:List Acc} (h:acsM l):∃t:Tv,t.ok∧Bd l=t.enc:=by
 have:=h.e
 exact⟨⟨0,16,true,(l.map acE).flatten⟩,⟨by show(0:Nat)≤3;omega,by show(16:Nat)≤30;omega,by show(l.map acE).flatten.length≤_;omega⟩,rfl⟩
theorem jZ {g w:List Acc} (mg:acsM g) (mw:acsM w) {r:List UInt8} (e:Bd w++r=Bd g):r=[]:=by
 obtain⟨t,t1,t2⟩:=jY mg
 obtain⟨u,u1,u2⟩:=jY mw
 rw[t2,u2] at e
 exact(Tv.inj u1 t1 (s:=[]) (by rw[List.append_nil];exact e)).2
theorem kA {w:List Acc} (hw:w.all acV=true) (hl:(Bd w).length≤400000):acsM w:=Po hw (by
 have q1:=Df 0 16 true (w.map acE).flatten
 unfold Bd at hl;omega)
theorem AL {g:List Acc} (mg:acsM g) (hl:(Bd g).length≤400000) {k:Nat} (hk:k<(Bd g).length):∃c o:Nat,c≠0∧J3 ((Bd g).take k)= .tup [Ap,erA c o]:=by
 rcases J4 ((Bd g).take k) (by rw[List.length_take];omega) with⟨w,-,hw,he,-⟩|⟨c,o,h1,-,h2⟩
 ·exfalso
  have hle:(Bd w).length=k:=by rw[←he,List.length_take];omega
  have mw:=kA hw (by omega)
  have h0:=jZ mg mw (r:=(Bd g).drop k) (by rw[←he,List.take_append_drop])
  have:=congrArg List.length h0
  rw[List.length_drop,List.length_nil] at this
  omega
 ·exact⟨c,o,h1,h2⟩
theorem vX {g:List Acc} (mg:acsM g) {m:List UInt8} (hl:(Bd g).length+m.length≤400000) (hm:m≠[]):∃c o:Nat,c≠0∧J3 (Bd g++m)= .tup [Ap,erA c o]:=by
 rcases J4 (Bd g++m) (by rw[List.length_append];omega) with⟨w,-,hw,he,-⟩|⟨c,o,h1,-,h2⟩
 ·exfalso
  have mw:=kA hw (by rw[←he,List.length_append];omega)
  exact hm (jZ mw mg he)
 ·exact⟨c,o,h1,h2⟩
theorem D9 {p:Prop} (h:p:=by first|rfl|(simp only[AV.gives,AV.ren,AV.give,D.un,D.uns,Ag,Ah,List.nil_append,List.append_nil,List.cons_append,Al,Av,Bt,Az,Ar,Bf,Bx,D7,D1,C8,Cc,B6,Bg,Pm,Pp];first|done|rfl)):p:=h
theorem AM (l:List Acc) (n:UInt16) (more:List UInt8) (h:l.length≤big∧∀a∈l,a.g.ok∧a.m.length≤big) (hb:more.length≤big):Aa Tryz.prog 4 [.d (Cb l),.d (.v (.int .u16 n.toNat)),.d (Ac false more)] (fun r=>r=bv true):=by
 have hA:=Pa
 have hF:=Ly l h
 have hat:=n.toNat_lt
 unfold big at hb
 cases hf:H5 l
 ·rw[hf] at hF
  refine acQ 72 Tryz.func4 rfl rfl fun _ _ _=> ?_
  (repeat'((conv=>whnf);first|refine NBr.yes ?_|refine NBr.no ?_|refine NCall.eq hA rfl ?_|refine NCall.eq hF D9 ?_));(all_goals(conv=>whnf))
  all_goals exact NEnd.eq leQ
 rw[hf] at hF
 by_cases h1:(more.length:Int)>2000
 ·have g1:decide ((more.length:Int)>2000)=true:=decide_eq_true h1
  refine acQ 72 Tryz.func4 rfl rfl fun _ _ _=> ?_
  (repeat'((conv=>whnf);first|refine NBr.pos asQ ?_|refine NBr.no ?_|refine NCall.eq hA rfl ?_|refine NCall.eq hF D9 ?_));(all_goals(conv=>whnf))
  all_goals exact NEnd.eq leQ
 have g1:decide ((more.length:Int)>2000)=false:=decide_eq_false h1
 obtain⟨n1,hm,n2⟩:=Kt hf
 obtain⟨hge,n3⟩:=Ut (v:=l) (by omega)
 have hM:=Et l hm
 cases hok:K1 l
 ·rw[hok] at hM
  have hM:Aa Tryz.prog 10 [.d (Cb l)] (fun r=>r= .tup [Ap,iv 8]):=hM
  refine acQ 72 Tryz.func4 rfl rfl fun _ _ _=> ?_
  (repeat'((conv=>whnf);first|refine NBr.neg asQ ?_|refine NBr.yes ?_|refine NBr.no ?_|refine NCall.eq hA rfl ?_|refine NCall.eq hF D9 ?_|refine NCall.eq hM D9 ?_));(all_goals(conv=>whnf))
  all_goals exact NEnd.eq leQ
 rw[hok] at hM
 have hM:Aa Tryz.prog 10 [.d (Cb l)] (fun r=>r= .tup [As 0 5 (Bd l),iv 0]):=hM
 have hpos:0<(Bd l).length:=by omega
 have hi:=Nat.mod_lt n.toNat hpos
 have gl:(((Bd l).length:Int)==0)=false:=by rw[beq_eq_false_iff_ne];omega
 have hP1:=Gs ((Bd l).take (n.toNat%(Bd l).length)) (by rw[List.length_take];omega)
 obtain⟨c1,o1,hc1,hr1⟩:=AL hm (by omega) hi
 rw[hr1] at hP1
 clear hr1
 have hP2:=Gs (Bd l++more) (by rw[List.length_append];omega)
 have hput:=Mv (C6.1 hok).1 (C6.1 hok).2 hm
 have hmore:more≠[]→∃c o:Nat,c≠0∧J3 (Bd l++more)= .tup [Ap,erA c o]:=vX hm (by omega)
 generalize hb':Bd l=b at hM hpos hi hP1 hP2 gl hput hmore n3
 generalize hj:n.toNat%b.length=i at hi hP1
 have hrem:((n.toNat:Int)).tmod (b.length:Int)=(i:Int):=by rw[Int.tmod_eq_emod_of_nonneg (by omega),←hj];rfl
 have hP1:Aa Tryz.prog 11 [.d (Ac false (b.take i))] (fun r=>r= .tup [Ap,erA c1 o1]):=hP1
 have gc1:((c1:Int) !=0)=true:=by rw[bne_iff_ne];omega
 by_cases hme:more=[]
 ·subst hme
  rw[List.append_nil,hput] at hP2
  have hP2:Aa Tryz.prog 11 [.d (Ac false b)] (fun r=>r= .tup [.d (N8 l),erA 0 0]):=hP2
  refine acQ 72 Tryz.func4 rfl rfl fun _ _ _=> ?_
  (repeat'((conv=>whnf);first|refine NBr.pos asQ ?_|refine NBr.neg asQ ?_|refine NBr.yes ?_|refine NBr.no ?_|refine NCall.eq hA rfl ?_|refine NCall.eq hF D9 ?_|refine NCall.eq hM D9 ?_|refine NInt.as ((i:Int)) (hrem) ?_|refine NSl.upto ((i)) ?_|refine NCall.eq hP1 D9 ?_|refine NCall.eq hP2 D9 ?_|(with_reducible refine NInt.i64 ?_)|(with_reducible refine NApp.bytes ?_)|(with_reducible refine NApp.bytes0 ?_)|refine NFact.go (by first|decide|omega|(simp only[List.length_cons,List.length_nil];omega)) ?_));(all_goals(conv=>whnf))
  all_goals exact NEnd.eq leQ
 ·have hml:0<more.length:=List.length_pos_iff.2 hme
  obtain⟨c2,o2,hc2,hr2⟩:=hmore hme
  rw[hr2] at hP2
  clear hr2
  have hP2:Aa Tryz.prog 11 [.d (Ac false (b++more))] (fun r=>r= .tup [Ap,erA c2 o2]):=hP2
  have gc2:((c2:Int)==0)=false:=by rw[beq_eq_false_iff_ne];omega
  have gm:((more.length:Int)==0)=false:=by rw[beq_eq_false_iff_ne];omega
  refine acQ 72 Tryz.func4 rfl rfl fun _ _ _=> ?_
  (repeat'((conv=>whnf);first|refine NBr.pos asQ ?_|refine NBr.neg asQ ?_|refine NBr.yes ?_|refine NBr.no ?_|refine NCall.eq hA rfl ?_|refine NCall.eq hF D9 ?_|refine NCall.eq hM D9 ?_|refine NInt.as ((i:Int)) (hrem) ?_|refine NSl.upto ((i)) ?_|refine NCall.eq hP1 D9 ?_|refine NCall.eq hP2 D9 ?_|(with_reducible refine NInt.i64 ?_)|(with_reducible refine NApp.bytes ?_)|(with_reducible refine NApp.bytes0 ?_)|refine NFact.go (by first|decide|omega|(simp only[List.length_cons,List.length_nil];omega)) ?_));(all_goals(conv=>whnf))
  all_goals(refine NEnd.eq ?_;(repeat'(first|refine And.intro ?_ ?_|exact rfl));(all_goals(conv=>whnf)))
  all_goals(rw[gc2,gm];rfl)
theorem gI (l:List Acc) (c o:Int):(AV.tup [.d (N8 l),erA c o]).fresh=true:=by
 have h:(N8 l).fresh=true:=P2 10 fun a _=>by
  show(true&&D.freshs (oE a.g))=true
  rw[gD];rfl
 show((N8 l).fresh&&((true&&(true&&true))&&true))=true
 rw[h];rfl
theorem L7 {p:Prop} (h:p:=by first|rfl|(simp only[AV.gives,AV.ren,AV.give,D.un,D.uns,Ag,Ah,List.nil_append,List.append_nil,List.cons_append,Al,Av,Bt,Az,Ar,Bf,Bx,D7,D1,C8,Cc,B6,Bg,Pm,Pp];first|done|rfl)):p:=h
theorem AN (b:List UInt8) (hb:b.length≤big):Aa Tryz.prog 5 [.d (Ac false b)] (fun r=>r=bv true):=by
 have hA:=Pa
 unfold big at hb
 by_cases h1:(b.length:Int)>3000
 ·have g1:=CV h1
  clear h1
  refine acQ 88 Tryz.func5 rfl rfl fun _ _ _=> ?_
  (repeat'((conv=>whnf);first|refine NBr.pos asQ ?_|refine NBr.no ?_|refine NCall.eq hA rfl ?_));(all_goals(conv=>whnf))
  all_goals exact NEnd.eq leQ
 have g1:=FN h1
 have hP:=Gs b (by omega)
 have hR:=cG b (by omega)
 have hBB:=By false false b b (by omega) (by omega)
 rw[beq_self_eq_true] at hBB
 have hb9:b.length≤1000000000:=by omega
 rcases J4 b (by omega) with⟨v,h0,hw,he,hp⟩|⟨c,o,hc0,ho,hp⟩
 ·have hpos:0<b.length:=by rw[he];unfold Bd Ae;rw[C4];omega
  obtain⟨hm,y1,y2⟩:=Wu h0 hw he (by omega)
  rw[hp] at hP
  rw[y1,if_pos y2] at hR
  have hM:=Et v hm
  rw[C6.2 ⟨h0,hw⟩,←he] at hM
  have hM:Aa Tryz.prog 10 [.d (Cb v)] (fun r=>r= .tup [As 0 5 b,iv 0]):=hM
  have hC:=H9 v v hm.q hm.q
  rw[decide_eq_true rfl] at hC
  have hfr:=gI v 0 0
  clear y1 y2 hm he
  refine acX 88 [10] Tryz.func5 rfl rfl fun _ _ _=> ?_
  (repeat'((conv=>whnf);first|refine NBr.neg asQ ?_|refine NBr.no ?_|refine NCall.eq hA rfl ?_|refine NStep.go (G0 (sz:=1) rfl rfl (ltN rfl) Tryz.underlying26 rfl rfl) ?_|refine L6 clQ ?_|refine NStep.go (Nn rfl rfl (ltN rfl) (G1.ty rfl) tyB) ?_|refine NStep.go (Vp (κ:=2000) rfl rfl (ltN rfl) clQ rfl rfl (Lj b) hpos Tryz.underlying26 tyB rfl hb9 (by omega)) ?_|refine NStep.go (S0 (κ:=2500) (k:=2000) rfl rfl (ltN rfl) clQ rfl (Hx b) (Hw b) rfl hP hfr) ?_|refine NStep.go (S1 (κ:=2600) (k:=2000) rfl rfl (ltN rfl) clQ rfl (Hx b) (Hw b) rfl rfl hBB rfl) ?_));(all_goals(conv=>whnf))
  refine NLoop.go (fun i:Nat=>i≤b.length) (fun i=>b.length-i) (fun i=>⟨[(0,.d (Ac false b)),(3,.pk 2000 0 b.length 1),(4,.d (N8 v)),(5,.ptr 5 0),(6,iv i)],[(2000,(Ak (Qj i b)).map AV.d),(5,[iv 0,iv 0])],[]⟩) 0 (by omega) (by((repeat'(first|exact trivial|exact Ao _|refine And.intro ?_ ?_));(all_goals(conv=>whnf)));all_goals exact Ev _) ?_
  intro i hi
  by_cases hik:i<b.length
  ·have gi:decide ((i:Int)<b.length)=true:=decide_eq_true (by omega)
   obtain⟨x,hx⟩:∃x,b[i]?=some x:=⟨_,List.getElem?_eq_getElem hik⟩
   have hx':=gE hx
   have hil:i<(Qj i b).length:=by rw[Yz];exact hik
   have hs:=Y0 hx
   (repeat'((conv=>whnf);first|refine NBr.pos asQ ?_|refine NStep.go (En rfl rfl (ltN rfl) Tryz.underlying26 rfl) ?_|refine NStep.go (Hv i rfl rfl (ltN rfl) Tryz.underlying26 tyB rfl rfl rfl hik) ?_|refine NStep.go (Hy rfl rfl (ltN rfl) rfl rfl hx') ?_|(with_reducible refine NInt.octZ (x.toNat+1) ?_)|refine NStep.go (G2 rfl rfl rfl rfl rfl hil) ?_|(with_reducible refine NInt.i64 ?_)));(all_goals(conv=>whnf))
   refine⟨i+1,by omega,by omega,?_⟩
   rw[←hs]
   ((repeat'(first|exact trivial|exact Ao _|refine And.intro ?_ ?_));(all_goals(conv=>whnf)))
   all_goals exact Ev _
  ·have gi:decide ((i:Int)<b.length)=false:=decide_eq_false (by omega)
   (repeat'((conv=>whnf);first|refine NBr.neg asQ ?_|refine NBr.no ?_|refine L6 clQ ?_|refine NStep.go (En rfl rfl (ltN rfl) Tryz.underlying26 rfl) ?_|refine NStep.callX (hM) (hpos) rfl rfl rfl (ltN rfl) 3000 clQ rfl rfl L7 ?_|refine NCall.eq hR L7 ?_|refine NCall.eq hC L7 ?_));(all_goals(conv=>whnf))
   refine NLoop.go (fun i:Nat=>i≤b.length) (fun i=>b.length-i) (fun i=>⟨[(4,.d (N8 v)),(7,.pk 3000 0 b.length 1),(8,iv 0),(9,.d (AI v)),(10,bv true),(11,iv i)],[(3000,(Ak (Qj i b)).map AV.d)],[]⟩) 0 (by omega) (by((repeat'(first|exact trivial|exact Ao _|refine And.intro ?_ ?_));(all_goals(conv=>whnf)));all_goals exact Ev _) ?_
   intro j hj
   by_cases hjk:j<b.length
   ·have gj:decide ((j:Int)<b.length)=true:=decide_eq_true (by omega)
    obtain⟨x,hx⟩:∃x,b[j]?=some x:=⟨_,List.getElem?_eq_getElem hjk⟩
    have hx':=gE hx
    have hil:j<(Qj j b).length:=by rw[Yz];exact hjk
    have hs:=Y0 hx
    (repeat'((conv=>whnf);first|refine NBr.pos asQ ?_|refine NStep.go (En rfl rfl (ltN rfl) Tryz.underlying26 rfl) ?_|refine NStep.go (Hv j rfl rfl (ltN rfl) Tryz.underlying26 tyB rfl rfl rfl hjk) ?_|refine NStep.go (Hy rfl rfl (ltN rfl) rfl rfl hx') ?_|(with_reducible refine NInt.octZ (x.toNat+1) ?_)|refine NStep.go (G2 rfl rfl rfl rfl rfl hil) ?_|(with_reducible refine NInt.i64 ?_)));(all_goals(conv=>whnf))
    refine⟨j+1,by omega,by omega,?_⟩
    rw[←hs]
    ((repeat'(first|exact trivial|exact Ao _|refine And.intro ?_ ?_));(all_goals(conv=>whnf)))
    all_goals exact Ev _
   ·have gj:decide ((j:Int)<b.length)=false:=decide_eq_false (by omega)
    (repeat'((conv=>whnf);first|refine NBr.neg asQ ?_|refine NBr.yes ?_|refine NBr.no ?_|refine L6 clQ ?_|refine NStep.go (En rfl rfl (ltN rfl) Tryz.underlying26 rfl) ?_|refine NCall.eq hC L7 ?_));(all_goals(conv=>whnf))
    all_goals exact NEnd.eq leQ
 ·rw[cH hp hc0 (by omega),if_neg (by simp)] at hR
  rw[hp] at hP
  have gc:((c:Int)==0)=false:=by rw[beq_eq_false_iff_ne];omega
  have hmn:acsM []:=⟨by simp,(fun a ha=>by cases ha),by simp⟩
  have hM:=Et [] hmn
  have hM:Aa Tryz.prog 10 [.d (Cb [])] (fun r=>r= .tup [Ap,iv 8]):=hM
  have hM:=hM.les (Kb (show Nm [Ap] [.d (Cb [])] by exact Su))
  have hC:=H9 [] [] hmn.q hmn.q
  rw[decide_eq_true rfl] at hC
  have hfr:(AV.tup [Ap,erA c o]).fresh=true:=rfl
  by_cases hb0:b=[]
  ·subst hb0
   refine acX 88 [10] Tryz.func5 rfl rfl fun _ _ _=> ?_
   (repeat'((conv=>whnf);first|refine NBr.neg asQ ?_|refine NBr.no ?_|refine NCall.eq hA rfl ?_|refine NStep.go (G0 (sz:=1) rfl rfl (ltN rfl) Tryz.underlying26 rfl rfl) ?_|refine NStep.go (Nn rfl rfl (ltN rfl) (G1.ty rfl) tyB) ?_|refine NStep.go (eP rfl rfl (ltN rfl) rfl rfl Tryz.underlying26 tyB) ?_|refine NCall.eq hP rfl ?_|refine NCall.eq hBB rfl ?_));(all_goals(conv=>whnf))
   refine NLoop.go (fun i:Nat=>i=0) (fun i=>i) (fun i=>⟨[(0,.d (Ac false [])),(3,.d (.sl false 0 1 [])),(4,Ap),(5,.ptr 5 0),(6,iv 0)],[(5,[iv c,iv o])],[]⟩) 0 rfl leQ ?_
   rintro i rfl
   (repeat'((conv=>whnf);first|refine NBr.no ?_|refine NStep.go (G0 (sz:=1) rfl rfl (ltN rfl) Tryz.underlying26 rfl rfl) ?_|refine NStep.call (hM) rfl rfl (ltN rfl) 3000 clQ rfl rfl rfl ?_|refine NCall.eq hR rfl ?_|refine NCall.le hC Su ?_|(refine NBr.mk (fun hc=> ?_) (fun hc=> ?_)<;>(have hcP:=hc;(try simp only[beq_iff_eq,beq_eq_false_iff_ne,ne_eq,Bool.not_eq_true',Bool.not_eq_false'] at hcP)<;>first|(exfalso;omega)|skip))));(all_goals(conv=>whnf))
   refine NLoop.go (fun i:Nat=>i=0) (fun i=>i) (fun i=>⟨[(7,Ap),(8,iv 8),(10,bv false),(11,iv 0)],[],[]⟩) 0 rfl leQ ?_
   rintro i rfl
   (repeat'((conv=>whnf);first|refine NBr.yes ?_|refine NBr.no ?_|refine NStep.go (G0 (sz:=1) rfl rfl (ltN rfl) Tryz.underlying26 rfl rfl) ?_));(all_goals(conv=>whnf))
   all_goals exact NEnd.eq leQ
  have hpos:0<b.length:=List.length_pos_iff.2 hb0
  refine acX 88 [10] Tryz.func5 rfl rfl fun _ _ _=> ?_
  (repeat'((conv=>whnf);first|refine NBr.neg asQ ?_|refine NBr.no ?_|refine NCall.eq hA rfl ?_|refine NStep.go (G0 (sz:=1) rfl rfl (ltN rfl) Tryz.underlying26 rfl rfl) ?_|refine L6 clQ ?_|refine NStep.go (Nn rfl rfl (ltN rfl) (G1.ty rfl) tyB) ?_|refine NStep.go (Vp (κ:=2000) rfl rfl (ltN rfl) clQ rfl rfl (Lj b) hpos Tryz.underlying26 tyB rfl hb9 (by omega)) ?_|refine NStep.go (S0 (κ:=2500) (k:=2000) rfl rfl (ltN rfl) clQ rfl (Hx b) (Hw b) rfl hP hfr) ?_|refine NStep.go (S1 (κ:=2600) (k:=2000) rfl rfl (ltN rfl) clQ rfl (Hx b) (Hw b) rfl rfl hBB rfl) ?_));(all_goals(conv=>whnf))
  refine NLoop.go (fun i:Nat=>i≤b.length) (fun i=>b.length-i) (fun i=>⟨[(0,.d (Ac false b)),(3,.pk 2000 0 b.length 1),(4,Ap),(5,.ptr 5 0),(6,iv i)],[(2000,(Ak (Qj i b)).map AV.d),(5,[iv c,iv o])],[]⟩) 0 (by omega) (by((repeat'(first|exact trivial|exact Ao _|refine And.intro ?_ ?_));(all_goals(conv=>whnf)));all_goals exact Ev _) ?_
  intro i hi
  by_cases hik:i<b.length
  ·have gi:decide ((i:Int)<b.length)=true:=decide_eq_true (by omega)
   obtain⟨x,hx⟩:∃x,b[i]?=some x:=⟨_,List.getElem?_eq_getElem hik⟩
   have hx':=gE hx
   have hil:i<(Qj i b).length:=by rw[Yz];exact hik
   have hs:=Y0 hx
   (repeat'((conv=>whnf);first|refine NBr.pos asQ ?_|refine NStep.go (En rfl rfl (ltN rfl) Tryz.underlying26 rfl) ?_|refine NStep.go (Hv i rfl rfl (ltN rfl) Tryz.underlying26 tyB rfl rfl rfl hik) ?_|refine NStep.go (Hy rfl rfl (ltN rfl) rfl rfl hx') ?_|(with_reducible refine NInt.octZ (x.toNat+1) ?_)|refine NStep.go (G2 rfl rfl rfl rfl rfl hil) ?_|(with_reducible refine NInt.i64 ?_)));(all_goals(conv=>whnf))
   refine⟨i+1,by omega,by omega,?_⟩
   rw[←hs]
   ((repeat'(first|exact trivial|exact Ao _|refine And.intro ?_ ?_));(all_goals(conv=>whnf)))
   all_goals exact Ev _
  ·have gi:decide ((i:Int)<b.length)=false:=decide_eq_false (by omega)
   (repeat'((conv=>whnf);first|refine NBr.neg asQ ?_|refine NBr.no ?_|refine L6 clQ ?_|refine NStep.go (En rfl rfl (ltN rfl) Tryz.underlying26 rfl) ?_|refine NStep.call (hM) rfl rfl (ltN rfl) 3000 clQ rfl rfl rfl ?_|refine NCall.eq hR L7 ?_|refine NCall.le hC Su ?_|(refine NBr.mk (fun hc=> ?_) (fun hc=> ?_)<;>(have hcP:=hc;(try simp only[beq_iff_eq,beq_eq_false_iff_ne,ne_eq,Bool.not_eq_true',Bool.not_eq_false'] at hcP)<;>first|(exfalso;omega)|skip))));(all_goals(conv=>whnf))
   refine NLoop.go (fun i:Nat=>i=0) (fun i=>i) (fun i=>⟨[(7,Ap),(8,iv 8),(10,bv false),(11,iv 0)],[],[]⟩) 0 rfl leQ ?_
   rintro j rfl
   (repeat'((conv=>whnf);first|refine NBr.yes ?_|refine NBr.no ?_|refine NStep.go (G0 (sz:=1) rfl rfl (ltN rfl) Tryz.underlying26 rfl rfl) ?_));(all_goals(conv=>whnf))
   all_goals exact NEnd.eq leQ
end Go.Proofs.YtcojanjphgmcmaaGreatDoor
