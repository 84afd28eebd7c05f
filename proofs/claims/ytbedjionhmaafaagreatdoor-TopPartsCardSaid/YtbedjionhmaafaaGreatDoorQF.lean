/- QF: Src Tke Tkn Ver Cva Off Ofs Smz. No condition. -/
import Derived.Test.YtbedjionhmaafaaGreatDoorQC
set_option linter.all false
namespace Go.Proofs.YtbedjionhmaafaaGreatDoor
open Go.RowKit
set_option maxRecDepth 100000
set_option maxHeartbeats 16000000
variable {p:Prop} {b:List UInt8} {s:Src}
def K6 (b:List UInt8) (s:Src):List AV:=[.d (By false b),.d (Gw s.l),iv s.c,iv s.o]
theorem Ns (b:List UInt8) (s:Src) (c o:Nat):PC Tryz.prog 51 900 5000 [.ptr 900 0,iv c,iv o] (K6 b s) (fun r cs=>r= .tup []/\cs=K6 b (s.fail b.length c o)):=by
 obtain⟨l,n,u⟩:=s
 unfold Src.fail
 have t:(if(b.length:Int)<(o:Int) then(b.length:Int) else(o:Int))=((min o b.length:Nat):Int):=by split<;>omega
 by_cases h:n=0
 ·subst h
  by_cases q:c=0
  ·subst q
   rw[Ai Ab]
   refine pcP 5000 28 Tryz.func51 rfl rfl fun m _ _ _ f i j e d a=> ?_
   (repeat'((conv=>whnf);first|refine Ej ?_|refine Ee ?_|refine Cs (Eb rfl rfl (ltN rfl) rfl) ?_|exact z7))
  ·rw[Aj ⟨rfl,q⟩]
   have g:((c:Int) !=0)=true:=by rw[Av];omega
   refine pcP 5000 28 Tryz.func51 rfl rfl fun m _ _ _ f i j e d a=> ?_
   (repeat'((conv=>whnf);first|refine zP ?_|refine zN ?_|refine Ej ?_|refine Ee ?_|refine Cs (Eb rfl rfl (ltN rfl) rfl) ?_|refine Cs (bL _ t rfl rfl (ltN rfl) rfl rfl) ?_|exact z7))
 ·rw[Ai fun k=>h k.1]
  have g:((n:Int)==0)=false:=by rw[An];omega
  refine pcP 5000 28 Tryz.func51 rfl rfl fun m _ _ _ f i j e d a=> ?_
  (repeat'((conv=>whnf);first|refine zP ?_|refine zN ?_|refine Ej ?_|refine Ee ?_|refine Cs (Eb rfl rfl (ltN rfl) rfl) ?_|exact z7))
def Src.In (b:List UInt8) (s:Src):Prop:=∀x∈s.l,x.at'+2<=x.body/\x.body<=x.stop/\x.stop<=b.length
def nxA (b:List UInt8) (s:Src):AV×Src:=if s.c≠0 then(.tup [elA .zero,.d (By true [])],s) else match s.l with
 |[]=>(.tup [elA .zero,.d (By true [])],s.fail b.length 1 b.length)
 |x::r=>(.tup [elA x,.d (By false (elO b x))],⟨r,s.c,s.o⟩)
theorem Un (b:List UInt8) (s:Src) (A:s.In b) (H:b.length<=1000000000):PC Tryz.prog 50 900 4000 [.ptr 900 0] (K6 b s) (fun r cs=>r=(nxA b s).1/\cs=K6 b (nxA b s).2):=by
 obtain⟨l,c,o⟩:=s
 have u:=Ns b ⟨l,c,o⟩ 1 b.length
 unfold nxA
 by_cases h:c≠0
 ·rw[Aj h]
  have e:Src.fail b.length ⟨l,c,o⟩ 1 b.length=⟨l,c,o⟩:=Ai fun k=>h k.1
  rw[e] at u
  have g:((c:Int) !=0)=true:=by rw[Av];omega
  refine pcY 4000 51 [51] Tryz.func50 rfl rfl fun v _ _ _ n j m i f a=> ?_
  (repeat'((conv=>whnf);first|refine zP ?_|refine zN ?_|refine Ej ?_|refine Ee ?_|refine cY ?_|refine Cs (Eb rfl rfl (ltN rfl) rfl) ?_|refine pQ u ?_|exact z7))
 ·rw[Ai h]
  have w:c=0:=As.1 h
  subst w
  match l with
  |[]=>
   refine pcY 4000 51 [51] Tryz.func50 rfl rfl fun v _ _ _ n j m i f a=> ?_
   (repeat'((conv=>whnf);first|refine Ej ?_|refine Ee ?_|refine cY ?_|refine Cs (Eb rfl rfl (ltN rfl) rfl) ?_|refine pQ u ?_|exact z7))
  |x::r=>
   obtain⟨B,E,C⟩:=A x (Bd ..)
   have z:(x::r)[0]?=some x:=rfl
   have F:(((x::r).length:Int)==0)=false:=by rw[An,D9];omega
   have y:(x::r).drop 1=r:=rfl
   simp only
   obtain⟨d,t⟩:∃q,elO b x=q:=⟨_,rfl⟩
   rw[t]
   unfold elO at t
   refine pcY 4000 51 [51] Tryz.func50 rfl rfl fun v _ _ _ n j m i f a=> ?_
   (repeat'((conv=>whnf);first|refine zP ?_|refine zN ?_|refine Ej ?_|refine Ee ?_|refine cY ?_|refine NLa.mk ⟨_,Hk rfl rfl (ltN rfl) rfl,?_⟩|refine Cs (Eb rfl rfl (ltN rfl) rfl) ?_|refine NIdx.tab (fun _=>rfl) z ?_|refine NSl.tab (fun _=>rfl) 1 (x::r).length r Ab ?_|(refine NSl.bytes x.at' x.stop d t ?_)|refine zF ?_|exact z7))
def ov:Option El->AV
 |none=> .tup [elA .zero,bv false]
 |some x=> .tup [elA x,bv true]
theorem QS (b:List UInt8) (s:Src) (k:Bool) (n:Nat) (z:s.In b) (y:b.length<=1000000000):PC Tryz.prog 61 900 3000 [.ptr 900 0,bv k,iv n] (K6 b s) (fun r cs=>r=ov (Mg k n s).1/\cs=K6 b (Mg k n s).2):=by
 have q:=Un b s z y
 obtain⟨l,c,o⟩:=s
 unfold Mg
 unfold nxA at q
 by_cases h:c≠0
 ·rw[Aj h]
  have g:((c:Int) !=0)=true:=by rw[Av];omega
  refine pcY 3000 43 [50] Tryz.func61 rfl rfl fun t _ _ _ f i j e d a=> ?_
  (repeat'((conv=>whnf);first|refine zP ?_|refine zN ?_|refine Ej ?_|refine Ee ?_|refine cY ?_|refine Cs (Eb rfl rfl (ltN rfl) rfl) ?_|exact z7))
 ·rw[Ai h] at q|-
  have w:c=0:=As.1 h
  subst w
  match l with
  |[]=>
   refine pcY 3000 43 [50] Tryz.func61 rfl rfl fun t _ _ _ f i j e d a=> ?_
   (repeat'((conv=>whnf);first|refine Ej ?_|refine Ee ?_|refine cY ?_|refine Cs (Eb rfl rfl (ltN rfl) rfl) ?_|exact z7))
  |x::r=>
   have v:(x::r)[0]?=some x:=rfl
   have A:(((x::r).length:Int)==0)=false:=by rw[An,D9];omega
   have m:=Fo x 2 n k
   simp only at q|-
   cases u:x.isB 2 n k
   ·rw[u] at m
    rw[Ai Ab]
    refine pcY 3000 43 [50] Tryz.func61 rfl rfl fun t _ _ _ f i j e d a=> ?_
    (repeat'((conv=>whnf);first|refine zP ?_|refine zN ?_|refine Ej ?_|refine Ee ?_|refine cY ?_|refine Cs (Eb rfl rfl (ltN rfl) rfl) ?_|refine NIdx.tab (fun _=>rfl) v ?_|refine Al m rfl ?_|exact z7))
   ·rw[u] at m
    rw[Aj rfl]
    refine pcY 3000 43 [50] Tryz.func61 rfl rfl fun t _ _ _ f i j e d a=> ?_
    (repeat'((conv=>whnf);first|refine zP ?_|refine zN ?_|refine Ej ?_|refine Ee ?_|refine cY ?_|refine Cs (Eb rfl rfl (ltN rfl) rfl) ?_|refine NIdx.tab (fun _=>rfl) v ?_|refine Al m rfl ?_|refine pQ q ?_|exact z7))
theorem QT (b:List UInt8) (s:Src) (v:Bool):PC Tryz.prog 21 900 3000 [.ptr 900 0,bv v] (K6 b s) (fun r cs=>r= .agg [iv (P7 b v s).c,iv (P7 b v s).o]/\cs=K6 b (P7 b v s)):=by
 obtain⟨l,c,o⟩:=s
 unfold P7
 match l with
 |[]=>
  have i:=Ns b ⟨[],c,o⟩ 6 0
  simp only
  cases v
  ·rw[Ai Ab]
   generalize q:Src.fail b.length ⟨[],c,o⟩ 6 0=T at i|-
   obtain⟨n,c',o'⟩:=T
   refine pcY 3000 28 [51] Tryz.func21 rfl rfl fun j _ _ _ f g h e d a=> ?_
   (repeat'((conv=>whnf);first|refine Ej ?_|refine Ee ?_|refine cY ?_|refine Cs (Eb rfl rfl (ltN rfl) rfl) ?_|refine pQ i ?_|exact z7))
  ·rw[Aj rfl]
   refine pcY 3000 28 [51] Tryz.func21 rfl rfl fun j _ _ _ f g h e d a=> ?_
   (repeat'((conv=>whnf);first|refine Ee ?_|refine cY ?_|refine Cs (Eb rfl rfl (ltN rfl) rfl) ?_|exact z7))
 |x::r=>
  have i:=Ns b ⟨x::r,c,o⟩ 2 x.at'
  have t:decide ((((x::r).length:Nat):Int)>0)=true:=Aq (by rw[D9];omega)
  have m:(x::r)[0]?=some x:=rfl
  simp only
  generalize Src.fail b.length ⟨x::r,c,o⟩ 2 x.at'=S at i|-
  have k:=Ns b S 6 0
  cases v
  ·rw[Ai Ab]
   generalize Src.fail b.length S 6 0=T at k|-
   obtain⟨n,c',o'⟩:=T
   refine pcY 3000 28 [51] Tryz.func21 rfl rfl fun j _ _ _ f g h e d a=> ?_
   (repeat'((conv=>whnf);first|refine zP ?_|refine zN ?_|refine Ej ?_|refine Ee ?_|refine cY ?_|refine Cs (Eb rfl rfl (ltN rfl) rfl) ?_|refine NIdx.tab (fun _=>rfl) m ?_|refine pQ i ?_|refine pQ k ?_|exact z7))
  ·rw[Aj rfl]
   obtain⟨n,c',o'⟩:=S
   refine pcY 3000 28 [51] Tryz.func21 rfl rfl fun j _ _ _ f g h e d a=> ?_
   (repeat'((conv=>whnf);first|refine zP ?_|refine zN ?_|refine Ej ?_|refine Ee ?_|refine cY ?_|refine Cs (Eb rfl rfl (ltN rfl) rfl) ?_|refine NIdx.tab (fun _=>rfl) m ?_|refine pQ i ?_|exact z7))
def gx (r:List UInt8×Nat×Nat):AV:= .tup [.d (By true r.1),erA r.2.1 r.2.2]
def biR (r:(List UInt8×Nat)×Nat×Nat):AV:= .tup [.agg [.d (By true r.1.1),iv r.1.2],erA r.2.1 r.2.2]
theorem M5 (h:p:=by first|rfl|(simp only[D8,AV.ren,AV.give,D.un,Ef,D7,D6,Ap,Am,Ak,Ea,Ed,Ep,Eo];first|done|rfl)):p:=h
theorem qV (b:List UInt8) (m:b.length<=1000000):aC 54 [.d (By false b)] (gx (M3 b)):=by
 have a:=Hj b Aa
 have i:=Fa b
 unfold M3
 generalize Em b=R at a i|-
 obtain⟨x,c,o⟩:=R
 rw[erR] at a
 simp only at i a|-
 by_cases h:c≠0
 ·rw[Aj h]
  have g:((c:Int) !=0)=true:=by rw[Av];omega
  refine acQ 27 Tryz.func54 rfl rfl fun _ _ _=> ?_
  (repeat'((conv=>whnf);first|refine zP ?_|refine Al a M5 ?_|refine zF ?_|exact zE))
 rw[Ai h]
 have k:c=0:=As.1 h
 subst k
 have e:=Fo x 0 2 false
 cases f:x.isB 0 2 false
 ·rw[f] at e
  rw[Aj rfl]
  refine acQ 27 Tryz.func54 rfl rfl fun _ _ _=> ?_
  (repeat'((conv=>whnf);first|refine Ej ?_|refine Ee ?_|refine Al a M5 ?_|refine Al e rfl ?_|exact zE))
 ·rw[f] at e
  rw[Ai Ab]
  obtain⟨p,d⟩:∃q,bod b x=q:=⟨_,rfl⟩
  have l:p.length<=b.length:=by rw[<-d];unfold bod;rw[Ec,Eh];omega
  have j:=Gq p Aa
  rw[d]
  unfold bod at d
  refine acQ 27 Tryz.func54 rfl rfl fun _ _ _=> ?_
  (repeat'((conv=>whnf);first|refine Ee ?_|refine Al a M5 ?_|refine Al e rfl ?_|(refine NSl.bytes x.body x.stop p d ?_)|refine Al j M5 ?_|exact zE))
theorem QU (b:List UInt8) (r:b.length<=1000000):aC 20 [.d (By false b)] (biR (Sa b)):=by
 have a:=Hj b Aa
 have j:=Fa b
 unfold Sa
 generalize Em b=R at a j|-
 obtain⟨x,c,o⟩:=R
 rw[erR] at a
 simp only at j a|-
 by_cases h:c≠0
 ·rw[Aj h]
  have g:((c:Int) !=0)=true:=by rw[Av];omega
  refine acQ 36 Tryz.func20 rfl rfl fun _ _ _=> ?_
  (repeat'((conv=>whnf);first|refine zP ?_|refine Al a M5 ?_|refine zF ?_|exact zE))
 rw[Ai h]
 have m:c=0:=As.1 h
 subst m
 have e:=Fo x 0 3 false
 cases i:x.isB 0 3 false
 ·rw[i] at e
  rw[Aj rfl]
  refine acQ 36 Tryz.func20 rfl rfl fun _ _ _=> ?_
  (repeat'((conv=>whnf);first|refine Ej ?_|refine Ee ?_|refine Al a M5 ?_|refine Al e rfl ?_|exact zE))
 ·rw[i] at e
  rw[Ai Ab]
  obtain⟨p,d⟩:∃q,bod b x=q:=⟨_,rfl⟩
  have n:p.length<=b.length:=by rw[<-d];unfold bod;rw[Ec,Eh];omega
  have f:=Qs p Aa
  rw[d]
  unfold bod at d
  cases k:dcB p with
  |none=>
   rw[k,dcA] at f
   refine acQ 36 Tryz.func20 rfl rfl fun _ _ _=> ?_
   (repeat'((conv=>whnf);first|refine Ee ?_|refine Al a M5 ?_|refine Al e rfl ?_|(refine NSl.bytes x.body x.stop p d ?_)|refine Al f M5 ?_|exact zE))
  |some q=>
   obtain⟨l,u⟩:=q
   rw[k,dcA] at f
   refine acQ 36 Tryz.func20 rfl rfl fun _ _ _=> ?_
   (repeat'((conv=>whnf);first|refine Ee ?_|refine Al a M5 ?_|refine Al e rfl ?_|(refine NSl.bytes x.body x.stop p d ?_)|refine Al f M5 ?_|exact zE))
theorem QV (b:List UInt8) (_:b.length<=1000000):(M3 b).2.2<=10000000:=by
 have a:=Fa b
 unfold M3
 split
 ·show(Em b).off<=_;omega
 ·split<;>exact Nat.zero_le _
theorem QW (b:List UInt8) (_:b.length<=1000000):(Sa b).2.2<=10000000:=by
 have a:=Fa b
 unfold Sa
 split
 ·show(Em b).off<=_;omega
 ·split
  ·exact Nat.zero_le _
  ·split<;>exact Nat.zero_le _
theorem IL (b:List UInt8) (h:b.length<=1000000):(Ju b).2.2<=10000000:=by
 have:=dT b Aa
 omega
def seA (l:List UInt8):AV:= .d (By true l)
def biA (p:List UInt8×Nat):AV:= .agg [.d (By true p.1),iv p.2]
theorem QX (b:List UInt8) (s:Src) (C:s.In b) (K:b.length<=100000):PC Tryz.prog 53 900 3000 [.ptr 900 0,.d (.fn 54 [])] (K6 b s) (fun r cs=>r=seA (E5 b [] M3 s).1/\cs=K6 b (E5 b [] M3 s).2):=by
 have a:=Un b s C Aa
 have y:=fun x c o=>Ns b ⟨x,0,s.o⟩ c o
 obtain⟨l,c,o⟩:=s
 unfold E5
 unfold nxA at a
 by_cases h:c≠0
 ·rw[Aj h] at a|-
  have g:((c:Int) !=0)=true:=by rw[Av];omega
  refine pcY 3000 38 [50] Tryz.func53 rfl rfl fun z _ _ _ u n t m i f=> ?_
  (repeat'((conv=>whnf);first|refine zP ?_|refine cY ?_|refine Cs (Eb rfl rfl (ltN rfl) rfl) ?_|refine pQ a ?_|exact z7))
 rw[Ai h] at a|-
 have E:c=0:=As.1 h
 subst E
 match l with
 |[]=>
  have e:Src.fail b.length ⟨[],0,o⟩ 1 b.length=⟨[],1,min b.length b.length⟩:=Aj ⟨rfl,Ae⟩
  simp only at a|-
  rw[e] at a|-
  refine pcY 3000 38 [50] Tryz.func53 rfl rfl fun z _ _ _ u n t m i f=> ?_
  (repeat'((conv=>whnf);first|refine Ej ?_|refine cY ?_|refine Cs (Eb rfl rfl (ltN rfl) rfl) ?_|refine pQ a ?_|exact z7))
 |x::r=>
  obtain⟨J,H,F⟩:=C x (Bd ..)
  simp only at a|-
  obtain⟨d,B⟩:∃q,elO b x=q:=⟨_,rfl⟩
  have I:d.length<=b.length:=by rw[<-B];unfold elO;rw[Ec,Eh];omega
  rw[B] at a|-
  have w:=qV d Aa
  have A:=QV d Aa
  generalize M3 d=R at w A|-
  obtain⟨v,k,j⟩:=R
  rw[gx] at w
  simp only at A|-
  have y:=y r k (x.at'+j)
  refine pcY 3000 38 [50,51] Tryz.func53 rfl rfl fun z _ _ _ u n t m i f=> ?_
  (repeat'((conv=>whnf);first|refine Ee ?_|refine cY ?_|refine Cs (Eb rfl rfl (ltN rfl) rfl) ?_|refine pQ a ?_|refine Al w M5 ?_|refine pQ y ?_|(with_reducible refine NInt.i64 ?_)|exact z7))
theorem lj (b:List UInt8) (s:Src) (E:s.In b) (L:b.length<=100000):PC Tryz.prog 19 900 3000 [.ptr 900 0,.d (.fn 20 [])] (K6 b s) (fun r cs=>r=biA (E5 b ([],0) Sa s).1/\cs=K6 b (E5 b ([],0) Sa s).2):=by
 have a:=Un b s E Aa
 have z:=fun x c o=>Ns b ⟨x,0,s.o⟩ c o
 obtain⟨l,c,o⟩:=s
 unfold E5
 unfold nxA at a
 by_cases h:c≠0
 ·rw[Aj h] at a|-
  have g:((c:Int) !=0)=true:=by rw[Av];omega
  refine pcY 3000 38 [50] Tryz.func19 rfl rfl fun A _ _ _ w n t m i f=> ?_
  (repeat'((conv=>whnf);first|refine zP ?_|refine cY ?_|refine Cs (Eb rfl rfl (ltN rfl) rfl) ?_|refine pQ a ?_|exact z7))
 rw[Ai h] at a|-
 have F:c=0:=As.1 h
 subst F
 match l with
 |[]=>
  have e:Src.fail b.length ⟨[],0,o⟩ 1 b.length=⟨[],1,min b.length b.length⟩:=Aj ⟨rfl,Ae⟩
  simp only at a|-
  rw[e] at a|-
  refine pcY 3000 38 [50] Tryz.func19 rfl rfl fun A _ _ _ w n t m i f=> ?_
  (repeat'((conv=>whnf);first|refine Ej ?_|refine cY ?_|refine Cs (Eb rfl rfl (ltN rfl) rfl) ?_|refine pQ a ?_|exact z7))
 |x::r=>
  obtain⟨K,I,H⟩:=E x (Bd ..)
  simp only at a|-
  obtain⟨d,C⟩:∃q,elO b x=q:=⟨_,rfl⟩
  have J:d.length<=b.length:=by rw[<-C];unfold elO;rw[Ec,Eh];omega
  rw[C] at a|-
  have y:=QU d Aa
  have B:=QW d Aa
  generalize Sa d=R at y B|-
  obtain⟨v,k,j⟩:=R
  obtain⟨v,u⟩:=v
  rw[biR] at y
  simp only at B|-
  have z:=z r k (x.at'+j)
  refine pcY 3000 38 [50,51] Tryz.func19 rfl rfl fun A _ _ _ w n t m i f=> ?_
  (repeat'((conv=>whnf);first|refine Ee ?_|refine cY ?_|refine Cs (Eb rfl rfl (ltN rfl) rfl) ?_|refine pQ a ?_|refine Al y M5 ?_|refine pQ z ?_|(with_reducible refine NInt.i64 ?_)|exact z7))
theorem BP (b:List UInt8) (s:Src) (E:s.In b) (L:b.length<=100000):PC Tryz.prog 17 900 3000 [.ptr 900 0,.d (.fn 18 [])] (K6 b s) (fun r cs=>r=li (E5 b .z Ju s).1/\cs=K6 b (E5 b .z Ju s).2):=by
 have a:=Un b s E Aa
 have z:=fun x c o=>Ns b ⟨x,0,s.o⟩ c o
 obtain⟨l,c,o⟩:=s
 unfold E5
 unfold nxA at a
 by_cases h:c≠0
 ·rw[Aj h] at a|-
  have g:((c:Int) !=0)=true:=by rw[Av];omega
  refine pcY 3000 38 [50] Tryz.func17 rfl rfl fun A _ _ _ w n t m i f=> ?_
  (repeat'((conv=>whnf);first|refine zP ?_|refine cY ?_|refine Cs (Eb rfl rfl (ltN rfl) rfl) ?_|refine pQ a ?_|exact z7))
 rw[Ai h] at a|-
 have F:c=0:=As.1 h
 subst F
 match l with
 |[]=>
  have e:Src.fail b.length ⟨[],0,o⟩ 1 b.length=⟨[],1,min b.length b.length⟩:=Aj ⟨rfl,Ae⟩
  simp only at a|-
  rw[e] at a|-
  refine pcY 3000 38 [50] Tryz.func17 rfl rfl fun A _ _ _ w n t m i f=> ?_
  (repeat'((conv=>whnf);first|refine Ej ?_|refine cY ?_|refine Cs (Eb rfl rfl (ltN rfl) rfl) ?_|refine pQ a ?_|exact z7))
 |x::r=>
  obtain⟨K,I,H⟩:=E x (Bd ..)
  simp only at a|-
  obtain⟨d,C⟩:∃q,elO b x=q:=⟨_,rfl⟩
  have J:d.length<=b.length:=by rw[<-C];unfold elO;rw[Ec,Eh];omega
  rw[C] at a|-
  have y:=Rr d Aa
  have B:=IL d Aa
  generalize Ju d=R at y B|-
  obtain⟨v,k,j⟩:=R
  obtain⟨v,u⟩:=v
  rw[alR] at y
  simp only at B|-
  have z:=z r k (x.at'+j)
  refine pcY 3000 38 [50,51] Tryz.func17 rfl rfl fun A _ _ _ w n t m i f=> ?_
  (repeat'((conv=>whnf);first|refine Ee ?_|refine cY ?_|refine Cs (Eb rfl rfl (ltN rfl) rfl) ?_|refine pQ a ?_|refine Al y M5 ?_|refine pQ z ?_|(with_reducible refine NInt.i64 ?_)|exact z7))
theorem qW (b:List UInt8):∀(l:List El) (c:List (List Att)) {n:List (List Att)},(nmL b l c).1=some n->(nmL b l c).2=(0,0)
 |[],_,_,_=>rfl
 |x::r,c,n,h=>by
  rw[nmL] at h|-
  split at h
  ·cases h
  ·rename_i a _ _ _ _
   exact qW b r _ h
theorem qX {n:List (List Att)} (h:(nmR b).1=some n):(nmR b).2=(0,0):=by
 unfold nmR nmQ at h|-
 split at h
 ·cases h
 ·rename_i k
  rw[Ai k]
  exact qW b _ _ h
theorem YX (b:List UInt8) (e:b.length<=800000):∃u:AV,(u= .d (gX (nmO b).1)\/u=Ff/\(nmO b).1=[])/\aC 56 [.d (By false b)] (.tup [u,erA (nmO b).2.1 (nmO b).2.2]):=by
 have a:=X1 b e
 have d:=fun n=>qX (b:=b) (n:=n)
 unfold nmO
 generalize nmR b=R at a d|-
 obtain⟨_|n,c,o⟩:=R
 ·exact⟨_,.inr ⟨rfl,rfl⟩,a⟩
 ·obtain⟨rfl,rfl⟩:=Prod.mk.inj (d n rfl)
  exact⟨_,.inl rfl,a⟩
theorem YY (b:List UInt8) (_:b.length<=1000000):(nmO b).2.2<=10000000:=by
 have d:=fun n=>qX (b:=b) (n:=n)
 have a:=vC b
 unfold nmO
 generalize nmR b=R at a d|-
 obtain⟨_|n,c,o⟩:=R
 ·have:=(a rfl).2
  simp only at this|-
  omega
 ·obtain⟨rfl,rfl⟩:=Prod.mk.inj (d n rfl)
  exact Nat.zero_le _
theorem QY (b:List UInt8) (j:b.length<=1000000):(O6 b).2.2<=10000000:=by
 have d:=Hg b 0 16
 have a:=fun x=>Ez (b:=b) (c:=0) (n:=16) (x:=x)
 unfold O6 keQ
 generalize Dn b 0 16=R at d a|-
 obtain⟨l,c,o⟩:=R
 simp only at a d|-
 by_cases h:c≠0
 ·rw[Aj h];show o<=_;omega
 rw[Ai h]
 match l with
 |[]=>show b.length<=_;omega
 |[_]=>show b.length<=_;omega
 |_::_::z::_=>have:=a z Ab;show z.at'<=_;omega
 |[x,y]=>
  have g:=a x Ab
  have i:=a y Ab
  have e:=dT (elO b x) (by unfold elO;rw[Ec,Eh];omega)
  have f:(elO b x).length<=b.length:=by unfold elO;rw[Ec,Eh];omega
  simp only
  unfold keX
  split
  ·show y.at'<=_;omega
  ·split
   ·show x.at'+_<=_;omega
   ·split
    ·show y.body<=_;omega
    ·exact Nat.zero_le _
def naA (n:List (List Att)):AV:= .d (gX n)
def ow (k:Ky):AV:= .agg [sx k.a.oid,.d (By true k.a.par),.d (By true k.l),iv k.u]
theorem QZ (h:p:=by first|rfl|(simp only[D8,AV.ren,AV.give,D.un,Ef,D7,D6,Ap,Am,Ak,Ea,Ed,Ep,Eo];first|done|rfl)):p:=h
theorem Yd (b:List UInt8) (s:Src) (F:s.In b) (M:b.length<=100000):PC Tryz.prog 55 900 3000 [.ptr 900 0,.d (.fn 56 [])] (K6 b s) (fun r cs=>r=naA (E5 b [] nmO s).1/\cs=K6 b (E5 b [] nmO s).2):=by
 have a:=Un b s F Aa
 have A:=fun x c o=>Ns b ⟨x,0,s.o⟩ c o
 obtain⟨l,c,o⟩:=s
 unfold E5
 unfold nxA at a
 by_cases h:c≠0
 ·rw[Aj h] at a|-
  have g:((c:Int) !=0)=true:=by rw[Av];omega
  refine pcY 3000 38 [50] Tryz.func55 rfl rfl fun B _ _ _ w n t m i f=> ?_
  (repeat'((conv=>whnf);first|refine zP ?_|refine cY ?_|refine Cs (Eb rfl rfl (ltN rfl) rfl) ?_|refine pQ a ?_|exact z7))
 rw[Ai h] at a|-
 have H:c=0:=As.1 h
 subst H
 match l with
 |[]=>
  have e:Src.fail b.length ⟨[],0,o⟩ 1 b.length=⟨[],1,min b.length b.length⟩:=Aj ⟨rfl,Ae⟩
  simp only at a|-
  rw[e] at a|-
  refine pcY 3000 38 [50] Tryz.func55 rfl rfl fun B _ _ _ w n t m i f=> ?_
  (repeat'((conv=>whnf);first|refine Ej ?_|refine cY ?_|refine Cs (Eb rfl rfl (ltN rfl) rfl) ?_|refine pQ a ?_|exact z7))
 |x::r=>
  obtain⟨L,J,I⟩:=F x (Bd ..)
  simp only at a|-
  obtain⟨d,E⟩:∃q,elO b x=q:=⟨_,rfl⟩
  have K:d.length<=b.length:=by rw[<-E];unfold elO;rw[Ec,Eh];omega
  rw[E] at a|-
  have y:=YX d Aa
  have C:=YY d Aa
  obtain⟨u,z,y⟩:=y
  generalize nmO d=R at y C z|-
  obtain⟨v,k,j⟩:=R
  simp only at C z
  have A:=A r k (x.at'+j)
  rcases z with rfl|⟨rfl,rfl⟩
  all_goals
   refine pcY 3000 38 [50,51] Tryz.func55 rfl rfl fun B _ _ _ w n t m i f=> ?_
   (repeat'((conv=>whnf);first|refine Ee ?_|refine cY ?_|refine Cs (Eb rfl rfl (ltN rfl) rfl) ?_|refine pQ a ?_|refine Al y QZ ?_|refine pQ A ?_|(with_reducible refine NInt.i64 ?_)|exact z7))
theorem RB (b:List UInt8) (s:Src) (H:s.In b) (N:b.length<=100000):PC Tryz.prog 58 900 3000 [.ptr 900 0,.d (.fn 59 [])] (K6 b s) (fun r cs=>r=ow (E5 b .z O6 s).1/\cs=K6 b (E5 b .z O6 s).2):=by
 have a:=Un b s H Aa
 have B:=fun x c o=>Ns b ⟨x,0,s.o⟩ c o
 obtain⟨l,c,o⟩:=s
 unfold E5
 unfold nxA at a
 by_cases h:c≠0
 ·rw[Aj h] at a|-
  have g:((c:Int) !=0)=true:=by rw[Av];omega
  refine pcY 3000 38 [50] Tryz.func58 rfl rfl fun C _ _ _ z n t m i f=> ?_
  (repeat'((conv=>whnf);first|refine zP ?_|refine cY ?_|refine Cs (Eb rfl rfl (ltN rfl) rfl) ?_|refine pQ a ?_|exact z7))
 rw[Ai h] at a|-
 have I:c=0:=As.1 h
 subst I
 match l with
 |[]=>
  have e:Src.fail b.length ⟨[],0,o⟩ 1 b.length=⟨[],1,min b.length b.length⟩:=Aj ⟨rfl,Ae⟩
  simp only at a|-
  rw[e] at a|-
  refine pcY 3000 38 [50] Tryz.func58 rfl rfl fun C _ _ _ z n t m i f=> ?_
  (repeat'((conv=>whnf);first|refine Ej ?_|refine cY ?_|refine Cs (Eb rfl rfl (ltN rfl) rfl) ?_|refine pQ a ?_|exact z7))
 |x::r=>
  obtain⟨M,K,J⟩:=H x (Bd ..)
  simp only at a|-
  obtain⟨d,F⟩:∃q,elO b x=q:=⟨_,rfl⟩
  have L:d.length<=b.length:=by rw[<-F];unfold elO;rw[Ec,Eh];omega
  rw[F] at a|-
  have A:=vZ d Aa
  have E:=QY d Aa
  generalize O6 d=R at A E|-
  obtain⟨v,k,j⟩:=R
  obtain⟨⟨w,y⟩,v,u⟩:=v
  rw[keR] at A
  simp only at E|-
  have B:=B r k (x.at'+j)
  refine pcY 3000 38 [50,51] Tryz.func58 rfl rfl fun C _ _ _ z n t m i f=> ?_
  (repeat'((conv=>whnf);first|refine Ee ?_|refine cY ?_|refine Cs (Eb rfl rfl (ltN rfl) rfl) ?_|refine pQ a ?_|refine Al A QZ ?_|refine pQ B ?_|(with_reducible refine NInt.i64 ?_)|exact z7))
theorem IM {l:List Oper} {a:List It} {σ:AS} (h:Ot l.toArray (Vx l []) 0 l a=true) (k:Sl σ a=true):Xo l a σ=true:=by
 unfold Xo;rw[h,k];rfl
theorem zG {F A:Prop} (k:A) (h:F:=by exact⟨by decide+kernel,IM Ac clP⟩):NFact F A:=Fv h k
theorem Nb {k:Bool} {n:Nat} {a:Src} {x:Option El} (d:s.In b) (h:Mg k n s=(x,a)):a.In b/\∀y,x=some y->y.at'+2<=y.body/\y.body<=y.stop/\y.stop<=b.length:=by
 obtain⟨l,c,o⟩:=s
 unfold Mg at h
 split at h
 ·grind
 cases l with
 |nil=>grind
 |cons z r=>
  simp only at h
  split at h
  ·cases h
   exact⟨fun y f=>d y (Be _ f),fun y e=>by cases e;exact d _ (Bd ..)⟩
  grind
theorem qY:∀(l:List UInt8) (n:Int),n<0->qL n l<0
 |[],_,h=>h
 |x::r,n,h=>by
  have:=x.toNat_lt
  exact qY r (n*256+(x.toNat:Int)) Aa
theorem qZ:∀(l:List UInt8) (n:Int),3<=n->3<=qL n l
 |[],_,h=>h
 |x::r,n,h=>qZ r (n*256+(x.toNat:Int)) Aa
theorem YZ (c:List UInt8):((Oc c).2=false\/(Oc c).1<1\/(Oc c).1>2)/\(if c=[1] then 1 else if c=[2] then 2 else 0:Nat)=0\/(Oc c).2=true/\1<=(Oc c).1/\(Oc c).1<=2/\(Oc c).1=((if c=[1] then 1 else if c=[2] then 2 else 0:Nat):Int):=by
 match c with
 |[]=>exact .inl ⟨.inl rfl,rfl⟩
 |[x]=>
  have j:=x.toNat_lt
  have e:Oc [x]=(s8 x,true):=rfl
  rw[e]
  by_cases f:x=1
  ·subst f;exact .inr ⟨rfl,Ae,Ae,Ae⟩
  by_cases g:x=2
  ·subst g;exact .inr ⟨rfl,Ae,Ae,Ae⟩
  refine .inl ⟨.inr ?_,by simp[f,g]⟩
  have w:x.toNat≠1:=fun h=>f (B8.1 h)
  have t:x.toNat≠2:=fun h=>g (B8.1 h)
  grind [s8]
 |x::y::r=>
  refine .inl ⟨?_,Ab⟩
  unfold Oc
  split
  ·rename_i h;cases h
  rename_i a l h
  obtain⟨rfl,rfl⟩:=List.cons.inj h
  split
  ·exact .inl rfl
  ·rename_i k
   right
   rw[Co,not_or,Ca,Bool.not_eq_false] at k
   have i:=k.1
   simp only[T6,Et,Ca,C6,An,Ar,Du] at i
   have j:=x.toNat_lt
   have o:=y.toNat_lt
   have n:x≠0->x.toNat≠0:=fun q h=>q (B8.1 h)
   have u:x≠255->x.toNat≠255:=fun q h=>q (B8.1 h)
   have m:x.toNat=0->x=0:=fun h=>B8.1 h
   have zf:x.toNat=255->x=255:=fun h=>B8.1 h
   have d:s8 x*256+(y.toNat:Int)<0\/3<=s8 x*256+(y.toNat:Int):=by
    unfold s8
    by_cases v:x.toNat=0
    ·grind
    ·split<;>omega
   show qL (s8 x*256+(y.toNat:Int)) r<1\/qL (s8 x*256+(y.toNat:Int)) r>2
   rcases d with d|d
   ·left;have:=qY r _ d;omega
   ·right;have:=qZ r _ d;omega
theorem rA (b:List UInt8):(M3 b).1.length<=b.length:=by
 unfold M3
 split
 ·exact Nat.zero_le _
 ·split
  ·exact Nat.zero_le _
  grind [bod,Ec,Eh]
theorem Ye (h:p:=by first|rfl|(simp only[D8,AV.ren,AV.give,D.un,Ef,D7,D6,Ap,Am,Ak,Ea,Ed,Ep,Eo];first|done|rfl)):p:=h
theorem gy (b:List UInt8) (s:Src) (L:s.In b) (hb:b.length<=100000):PC Tryz.prog 52 900 2000 [.ptr 900 0] (K6 b s) (fun r cs=>r=iv (Nz b s).1/\cs=K6 b (Nz b s).2):=by
 have f:=QS b s true 0 L Aa
 unfold Nz
 generalize M:Mg true 0 s=R at f|-
 obtain⟨_|x,K⟩:=R
 ·simp only at f|-
  refine pcY 2000 54 [61] Tryz.func52 rfl rfl fun I _ _ _ A u w o m l=> ?_
  (repeat'((conv=>whnf);first|refine Ej ?_|refine cY ?_|refine pQ f ?_|exact z7))
 obtain⟨-,N⟩:=Nb L M
 obtain⟨Z,X,W⟩:=N x rfl
 have U:=Ns b K 6 x.body
 simp only at f|-
 unfold qJ
 obtain⟨d,y⟩:∃q,bod b x=q:=⟨_,rfl⟩
 have Y:d.length<=b.length:=by rw[<-y];unfold bod;rw[Ec,Eh];omega
 rw[y]
 have t:=qV d Aa
 have J:=rA d
 generalize M3 d=Q at t J|-
 obtain⟨v,k,j⟩:=Q
 rw[gx] at t
 simp only at t J|-
 have B:=Ve v Aa
 have i:=YZ v
 generalize Oc v=p at B i
 obtain⟨E,C⟩:∃n:Nat,(if v=[1] then 1 else if v=[2] then 2 else 0:Nat)=n:=⟨_,rfl⟩
 rw[C] at i|-
 obtain⟨p,q⟩:=p
 simp only at i B
 unfold bod at y
 have z:k≠0\/q=false\/p<1\/p>2->PC Tryz.prog 52 900 2000 [.ptr 900 0] (K6 b s) (fun r cs=>r=iv 0/\cs=K6 b (K.fail b.length 6 x.body)):=by
  intro h
  have g:((k:Int) !=0)=true\/((k:Int) !=0)=false/\q=false\/((k:Int) !=0)=false/\q=true/\decide (p<1)=true\/((k:Int) !=0)=false/\q=true/\decide (p<1)=false/\decide (p>2)=true:=by
   by_cases c:k=0
   ·subst c
    cases q
    ·exact .inr (.inl ⟨rfl,rfl⟩)
    ·by_cases a:p<1
     ·exact .inr (.inr (.inl ⟨rfl,rfl,Aq a⟩))
     ·refine .inr (.inr (.inr ⟨rfl,rfl,Ao a,Aq ?_⟩))
      rcases h with h|h|h|h
      ·exact Bg rfl h
      ·cases h
      ·exact Bg h a
      ·exact h
   ·exact .inl (by rw[Av];omega)
  rcases g with g|⟨g,rfl⟩|⟨g,rfl,H⟩|⟨g,rfl,H,T⟩
  all_goals
   refine pcY 2000 54 [61,51] Tryz.func52 rfl rfl fun I _ _ _ A u w o m l=> ?_
   (repeat'((conv=>whnf);first|refine zP ?_|refine zN ?_|refine Ej ?_|refine Ee ?_|refine cY ?_|refine zG ?_|refine NLa.mk ⟨_,Hk rfl rfl (ltN rfl) rfl,?_⟩|(refine NSl.bytes x.body x.stop d y ?_)|refine Al t Ye ?_|refine Al B Ye ?_|refine pQ f ?_|refine pQ U ?_));(all_goals(conv=>whnf))
   all_goals exact z7
 by_cases c:k≠0
 ·rw[Aj c,Aj rfl];exact z (.inl c)
 rw[Ai c]
 rcases i with⟨i,e⟩|⟨rfl,a,V,F⟩
 ·rw[Aj e];exact z (.inr i)
 have P:E≠0:=fun e=>by rw[e] at F;rw[F] at a;exact Bg a Ae
 rw[Ai P]
 subst F
 have O:k=0:=As.1 c
 subst O
 have H:decide ((E:Int)<1)=false:=Ao (Int.not_lt.2 a)
 have T:decide ((E:Int)>2)=false:=Ao (Int.not_lt.2 V)
 refine pcY 2000 54 [61,51] Tryz.func52 rfl rfl fun I _ _ _ A u w o m l=> ?_
 (repeat'((conv=>whnf);first|refine zP ?_|refine zN ?_|refine Ej ?_|refine Ee ?_|refine cY ?_|refine zG ?_|refine NLa.mk ⟨_,Hk rfl rfl (ltN rfl) rfl,?_⟩|(refine NSl.bytes x.body x.stop d y ?_)|refine Al t Ye ?_|refine Al B Ye ?_|refine pQ f ?_));(all_goals(conv=>whnf))
 all_goals exact z7
def uqA (p:Bool×List UInt8×Nat):AV:= .tup [bv p.1,.agg [.d (By true p.2.1),iv p.2.2]]
theorem IN (b:List UInt8) (s:Src) (n:Nat) (y:s.In b) (I:b.length<=100000):PC Tryz.prog 60 900 2000 [.ptr 900 0,iv n] (K6 b s) (fun r cs=>r=uqA (Kn n b s).1/\cs=K6 b (Kn n b s).2):=by
 have a:=QS b s false n y Aa
 unfold Kn
 generalize z:Mg false n s=R at a|-
 obtain⟨_|x,t⟩:=R
 ·simp only at a|-
  refine pcY 2000 38 [61] Tryz.func60 rfl rfl fun v _ _ _ m g h f e c=> ?_
  (repeat'((conv=>whnf);first|refine Ej ?_|refine cY ?_|refine pQ a ?_|exact z7))
 obtain⟨-,A⟩:=Nb y z
 obtain⟨H,E,C⟩:=A x rfl
 have B:=Ns b t 6 x.body
 have j:=Ns b t 0 x.body
 rw[show t.fail b.length 0 x.body=t from Ai fun k=>k.2 rfl] at j
 simp only at a|-
 obtain⟨d,i⟩:∃q,bod b x=q:=⟨_,rfl⟩
 have F:d.length<=b.length:=by rw[<-i];unfold bod;rw[Ec,Eh];omega
 rw[i]
 have o:=Qs d Aa
 unfold bod at i
 cases w:dcB d with
 |none=>
  rw[w,dcA] at o
  refine pcY 2000 38 [61,51] Tryz.func60 rfl rfl fun v _ _ _ m g h f e c=> ?_
  (repeat'((conv=>whnf);first|refine Ee ?_|refine cY ?_|refine zG ?_|refine NLa.mk ⟨_,Hk rfl rfl (ltN rfl) rfl,?_⟩|(refine NSl.bytes x.body x.stop d i ?_)|refine Al o Ye ?_|refine pQ a ?_|refine pQ B ?_));(all_goals(conv=>whnf))
  all_goals exact z7
 |some q=>
  obtain⟨l,u⟩:=q
  rw[w,dcA] at o
  refine pcY 2000 38 [61,51] Tryz.func60 rfl rfl fun v _ _ _ m g h f e c=> ?_
  (repeat'((conv=>whnf);first|refine Ee ?_|refine cY ?_|refine zG ?_|refine NLa.mk ⟨_,Hk rfl rfl (ltN rfl) rfl,?_⟩|(refine NSl.bytes x.body x.stop d i ?_)|refine Al o Ye ?_|refine pQ a ?_|refine pQ j ?_));(all_goals(conv=>whnf))
  all_goals exact z7
theorem dW (h:p:=by first|rfl|(simp only[D8,AV.ren,AV.give,D.un,Ef,D7,D6,Ap,Am,Ak,Ea,Ed,Ep,Eo,Ex,Fi];first|done|rfl)):p:=h
theorem lH (n:List (List Att)) (h:nmZ n):aC 113 [.d (Kz n)] (bv (nmV n)):=by
 have a:=Ty n h
 cases c:nmV n
 ·rw[c,Ai Ab] at a
  refine acQ 12 Tryz.func113 rfl rfl fun _ _ _=> ?_
  (repeat'((conv=>whnf);refine Al a dW ?_));(all_goals(conv=>whnf))
  all_goals exact zE
 ·rw[c,Aj rfl] at a
  refine acQ 12 Tryz.func113 rfl rfl fun _ _ _=> ?_
  (repeat'((conv=>whnf);refine Al a dW ?_));(all_goals(conv=>whnf))
  all_goals exact zE
theorem ZA (l:List UInt8) (u:Nat):aC 153 [btA l u] (bv ((l==[])&&u==0)):=by
 cases l with
 |nil=>
  have e:(u==0)=((u:Int)==0):=by rw[Bz,A9,A9];omega
  rw[show(([]:List UInt8)==[]&&u==0)=((u:Int)==0) from e]
  refine acQ 12 Tryz.func153 rfl rfl fun _ _ _=> ?_
  (repeat'((conv=>whnf);refine Ej ?_));(all_goals(conv=>whnf))
  all_goals exact zE
 |cons x r=>
  have g:(((x::r).length:Int)==0)=false:=by rw[An,D9];omega
  rw[show((x::r)==[]&&u==0)=false from rfl]
  refine acQ 12 Tryz.func153 rfl rfl fun _ _ _=> ?_
  (repeat'((conv=>whnf);first|refine zP ?_|refine zN ?_|refine Ej ?_|refine Ee ?_|exact zE))
theorem BQ (h:Bool) (l:List UInt8) (u v:Nat) (e:l.length<=1000000) (d:u<=255):aC 116 [bv h,btA l u,iv v] (bv (qN h l u v)):=by
 have c:=ZA l u
 have a:=Lv l u e d
 unfold qN
 cases h
 ·rw[Ai Ab]
  generalize ((l==[])&&u==0)=q at c|-
  refine acQ 16 Tryz.func116 rfl rfl fun _ _ _=> ?_
  (repeat'((conv=>whnf);first|refine Ee ?_|refine Al c dW ?_|exact zE))
 ·rw[Aj rfl]
  generalize Jd l u=q at a|-
  by_cases k:1<=v
  ·have g:decide ((v:Int)>=1)=true:=Aq Aa
   rw[Aq k,Cd]
   refine acQ 16 Tryz.func116 rfl rfl fun _ _ _=> ?_
   (repeat'((conv=>whnf);first|refine zP ?_|refine zN ?_|refine Ej ?_|refine Ee ?_|refine Al a dW ?_|exact zE))
  ·have g:decide ((v:Int)>=1)=false:=Ao Aa
   rw[Ao k,C4]
   refine acQ 16 Tryz.func116 rfl rfl fun _ _ _=> ?_
   (repeat'((conv=>whnf);first|refine zP ?_|refine zN ?_|refine Ej ?_|refine Ee ?_|exact zE))
theorem rB (a b:List UInt8) (c:a.length<=1000000000) (d:b.length<=1000000000):aC 70 [.d (By false a),.d (By false b)] (bv (a==b)):=by
 refine acQ 10 Tryz.func70 rfl rfl fun _ _ _=> ?_
 (repeat'((conv=>whnf);(with_reducible refine jJ ?_)));(all_goals(conv=>whnf))
 all_goals exact zE
theorem Y2 (a c:Alg) (k:a.sm) (j:c.sm):aC 22 [alA a,alA c] (bv (a==c)):=by
 have d:=rB a.par c.par (by have:=k.p;omega) (by have:=j.p;omega)
 have e:(a==c)=((a.oid==c.oid)&&(a.par==c.par)):=by
  rw[Bz,Et,A9,A9,A9]
  obtain⟨f,h⟩:=a
  obtain⟨i,g⟩:=c
  simp
 rw[e]
 obtain⟨f,h⟩:=a
 obtain⟨i,g⟩:=c
 simp only at d|-
 generalize (h==g)=q at d|-
 cases l:(f==i)
 all_goals
  refine acQ 17 Tryz.func22 rfl rfl fun _ _ _=> ?_
  (repeat'((conv=>whnf);first|refine zP ?_|refine zN ?_|refine Ej ?_|refine Ee ?_|refine Al d dW ?_|exact zE))
theorem Py (b:List UInt8) (x:El):(elO b x).length<=b.length:=by grind [elO,Ec,Eh]
theorem iF (b:List UInt8) (h:b.length<=1000000):(Il b).2.2<=10000000:=by
 have d:=Hg b 0 16
 have a:=fun x=>Ez (b:=b) (c:=0) (n:=16) (x:=x)
 unfold Il paQ
 generalize Dn b 0 16=R at d a|-
 obtain⟨l,c,o⟩:=R
 simp only at a d|-
 split
 ·show o<=_;omega
 ·split
  ·rename_i x y
   have f:=a x Ab
   have g:=a y Ab
   have e:=(Zw (elO b x)).1
   grind [Zw,elO,Py,paX,tmO]
  ·exact Nat.zero_le _
theorem rC (b:List UInt8) (e:b.length<=1000000):∀(l:List El) (a:List Ext),(∀x∈l,x.at'+2<=x.body/\x.body<=x.stop/\x.stop<=b.length)->(S2 b l a).2.2<=10000000
 |[],a,_=>by
  unfold S2
  split<;>exact Nat.zero_le _
 |x::r,a,h=>by
  have i:=h x (Bd ..)
  have f:=(lG (elO b x)).2.2
  have g:=Py b x
  have c:=fun a=>rC b e r a fun y d=>h y (Be _ d)
  unfold S2
  split
  ·simp only;omega
  ·exact c _
theorem rD (b:List UInt8) (d:b.length<=1000000):(Ub b).2.2<=10000000:=by
 have e:=Hg b 0 16
 have a:=fun x=>Ez (b:=b) (c:=0) (n:=16) (x:=x)
 grind [rC,Ub,PP,Dn]
theorem W4 {n:Nat} (c o:Nat) (h:s.o<=n):(s.fail n c o).o<=n:=by
 grind [Src.fail,Nat.min_le_right]
theorem RC {a:Type} (b:List UInt8) (z:a) (p:List UInt8->a×Nat×Nat) (s:Src) (h:s.o<=b.length):(E5 b z p s).2.o<=b.length:=by
 grind [E5,W4]
theorem lI (k:Bool) (n m:Nat) (s:Src) (h:s.o<=m):(Mg k n s).2.o<=m:=by
 grind [Mg]
theorem ZB (b:List UInt8) (s:Src) (h:s.o<=b.length):(Nz b s).2.o<=b.length:=by
 grind [lI,Nz,Mg,W4]
theorem ZC (n:Nat) (b:List UInt8) (s:Src) (h:s.o<=b.length):(Kn n b s).2.o<=b.length:=by
 grind [lI,Kn,Mg,W4]
theorem ZD (b:List UInt8) (s:Src) (h:s.o<=b.length):(Sb b s).2.o<=b.length:=by
 grind [lI,Sb,Mg,W4]
theorem ZE (b:List UInt8) (v:Bool) (s:Src) (h:s.o<=b.length):(P7 b v s).o<=b.length:=by
 grind [P7,W4]
theorem ZF (b:List UInt8):(H1 b).o<=b.length:=by
 unfold H1;split
 ·exact Hg b 0 16
 ·exact Nat.zero_le _
theorem ZG (b:List UInt8):(Mh b).2.o<=b.length:=by
 have a:=ZF b
 unfold Mh
 have c:=ZB b _ a
 generalize Nz b (H1 b)=R at c|-
 grind [RC,M3,E5,Ju,nmO,Il,O6,ZC,Kn,ZD]
theorem RD (V:Tbs->Bool) (b:List UInt8) (c:b.length<=1000000):(M4 V b).2.2<=10000000:=by
 have h:=ZG b
 unfold M4
 generalize Mh b=R at h|-
 obtain⟨t,s⟩:=R
 have a:=ZE b (V t) s h
 grind
theorem ZH (b:List UInt8):(Ju b).1.oid.length<=21*(b.length+1)/\(Ju b).1.par.length<=b.length:=by
 have X:∀x m,(alX b x m).1.oid.length<=21*(b.length+1)/\(alX b x m).1.par.length<=b.length:=by
  intro x m
  have c:=jX (bod b x)
  have a:(bod b x).length<=b.length:=by unfold bod;rw[Ec,Eh];omega
  unfold alX
  split
  ·exact⟨Nat.zero_le _,Nat.zero_le _⟩
  split
  ·exact⟨Nat.zero_le _,Nat.zero_le _⟩
  split
  ·grind
  ·split
   ·exact⟨Nat.zero_le _,Nat.zero_le _⟩
   grind [Py]
 unfold Ju alQ
 split
 ·exact⟨Nat.zero_le _,Nat.zero_le _⟩
 ·split
  ·exact⟨Nat.zero_le _,Nat.zero_le _⟩
  ·exact X _ _
  ·exact X _ _
  ·exact⟨Nat.zero_le _,Nat.zero_le _⟩
theorem Lw {a:Type} (P:a->Prop) {z:a} {p:List UInt8->a×Nat×Nat} (d:P z) (c:∀x,P (p (elO b x)).1):P (E5 b z p s).1:=by
 grind [E5]
end Go.Proofs.YtbedjionhmaafaaGreatDoor
