/- QJ: PoV PoQ. No condition. -/
import Derived.Test.YtbedjionhmaafaaGreatDoorQF
set_option linter.all false
namespace Go.Proofs.YtbedjionhmaafaaGreatDoor
open Go.RowKit
set_option maxRecDepth 100000
set_option maxHeartbeats 16000000
abbrev Qu:=List UInt8×List UInt8
abbrev Po:=List UInt8×List Qu
def quC (q:Qu):List D:=[sD q.1,By false q.2]
def quO (q:Qu):List D:=[sD q.1,By true q.2]
def rG (l:List Qu):D:=J5 false 2 quC l
def ZN (l:List Qu):D:=J5 true 2 quO l
def poC (p:Po):List D:=[sD p.1,rG p.2]
def poO (p:Po):List D:=[sD p.1,ZN p.2]
def iK (l:List Po):D:=J5 false 2 poC l
def RS (l:List Po):D:=J5 true 2 poO l
def mpC (m:Qu):List D:=[sD m.1,sD m.2]
def IR (l:List Qu):D:=J5 false 2 mpC l
def mc (l:List Qu):D:=J5 true 2 mpC l
theorem ZO (x:Qu):Ef (quC x)=quC x:=by
 show D.un (sD x.1)::D.un (By false x.2)::[]=_
 rw[D7];rfl
theorem lN (l:List Qu):(rG l).un=rG l:=K3 ZO false 2 l
theorem BY (l:List Qu):Ef (l.flatMap quO)=l.flatMap quC:=by
 induction l with
 |nil=>rfl
 |cons x r a=>
  show D.un (sD x.1)::D.un (By true x.2)::Ef (r.flatMap quO)=_
  rw[a,D7];rfl
theorem BZ (l:List Qu):(ZN l).un=rG l:=by
 show D.sl false l.length 2 (Ef (l.flatMap quO))=_
 rw[BY];rfl
theorem ZP (x:Po):Ef (poC x)=poC x:=by
 show D.un (sD x.1)::D.un (rG x.2)::[]=_
 rw[lN];rfl
theorem rH (l:List Po):(iK l).un=iK l:=K3 ZP false 2 l
theorem CA (l:List Po):Ef (l.flatMap poO)=l.flatMap poC:=by
 induction l with
 |nil=>rfl
 |cons x r a=>
  show D.un (sD x.1)::D.un (ZN x.2)::Ef (r.flatMap poO)=_
  rw[a,BZ];rfl
theorem RT (l:List Po):(RS l).un=iK l:=by
 show D.sl false l.length 2 (Ef (l.flatMap poO))=_
 rw[CA];rfl
theorem ZQ (x:Qu):Ef (mpC x)=mpC x:=rfl
theorem CB (l:List Qu):(IR l).un=IR l:=K3 ZQ false 2 l
theorem P9 {p:Prop} (h:p:=by first|rfl|(simp only[D8,AV.ren,AV.give,D.un,Ef,D7,D6,Ap,Am,Ak,AV.dull,I5,Ea,Ed,Ep,Eo,lN,rH,CB];first|done|rfl)):p:=h
theorem eB (b:List UInt8) (h:b.length<=1000000000):aC 366 [.d (By false b)] (bv (Gt b)):=by
 rw[Re]
 rcases Qq b h with⟨c,k,j,tm,tk,l,i,a⟩|⟨c,a⟩
 ·rw[c]
  refine acQ 13 Tryz.func366 rfl rfl fun e _ _=> ?_
  (repeat'((conv=>whnf);refine Al a P9 ?_));(all_goals(conv=>whnf))
  all_goals exact zE
 ·generalize N3 b=tO at a
  generalize Mc b=d at a c|-
  have g:((d:Int)==0)=false:=by rw[An];omega
  have f:(d==0)=false:=by rw[An];exact c
  refine acQ 13 Tryz.func366 rfl rfl fun e _ _=> ?_
  (repeat'((conv=>whnf);refine Al a P9 ?_));(all_goals(conv=>whnf))
  all_goals(refine E0 ?_;(repeat'(first|refine A1 ?_ ?_|exact rfl));(all_goals(conv=>whnf)))
  all_goals(rw[g,f];try rfl)
def quN (q:Qu):Bool:=H7 q.1&&Gt q.2
theorem ZR (q:Qu) (c:q.1.length<=4000000) (f:q.2.length<=1000000):aC 365 [.agg [sx q.1,.d (By false q.2)]] (bv (!quN q)):=by
 have a:=Kq q.1 c
 have b:=eB q.2 Aa
 unfold quN
 obtain⟨s,v⟩:=q
 simp only at*
 generalize Gt v=w at b|-
 cases d:H7 s
 all_goals
  rw[d] at a
  refine acQ 13 Tryz.func365 rfl rfl fun e _ _=> ?_
  (repeat'((conv=>whnf);first|refine Ej ?_|refine Ee ?_|refine Al a rfl ?_|refine Al b P9 ?_|exact zE))
def ixF {α:Type} (f:α->Bool) (l:List α):Int:=if l.all f=true then-1 else((l.takeWhile f).length:Int)
theorem RU {a:Type} (f:a->Bool) (l:List a):decide (ixF f l>=0)= !l.all f:=by
 unfold ixF
 cases l.all f
 ·rw[Ai Ab];exact Aq Aa
 ·rw[Aj rfl];rfl
theorem RV (l:List Qu) (o:l.length<=1000000) (j:∀q∈l,q.1.length<=4000000/\q.2.length<=1000000):aC 399 [.d (rG l),.d (.fn 365 [])] (iv (ixF quN l)):=by
 refine acQ 19 Tryz.func399 rfl rfl fun r _ _=> ?_
 (all_goals(conv=>whnf))
 refine Fh (fun i:Nat=>i<=l.length/\(l.take i).all quN=true) (fun i=>l.length-i) (fun i=>⟨[(0,.d (rG l)),(1,.d (.fn 365 [])),(7,iv l.length),(8,iv i)],[],[]⟩) 0 ⟨Aa,rfl⟩ leQ ?_
 rintro i ⟨s,c⟩
 by_cases f:i<l.length
 ·have n:decide ((i:Int)<l.length)=true:=Aq Aa
  obtain⟨b,a⟩:∃p,l[i]?=some p:=⟨_,Ev f⟩
  obtain⟨g,k⟩:=j b (F9 a)
  have d:=ZR b g k
  cases e:quN b
  ·rw[e] at d
   obtain⟨h,m⟩:=yZ quN c a e
   rw[show ixF quN l=i by unfold ixF;rw[m,h];rfl]
   (repeat'((conv=>whnf);first|refine zP ?_|refine zN ?_|refine Ej ?_|refine Ee ?_|refine NIdx.tab (fun _=>rfl) a ?_|refine Al d P9 ?_|exact zE))
  ·rw[e] at d
   (repeat'((conv=>whnf);first|refine zP ?_|refine zN ?_|refine Ej ?_|refine Ee ?_|refine NIdx.tab (fun _=>rfl) a ?_|refine Al d P9 ?_|(with_reducible refine NInt.i64 ?_)));(all_goals(conv=>whnf))
   refine⟨i+1,⟨Aa,Og quN a e c⟩,Aa,?_⟩
   exact leQ
 ·have n:decide ((i:Int)<l.length)=false:=Ao Aa
  obtain rfl:i=l.length:=Aa
  rw[Bv] at c
  rw[show ixF quN l= -1 by unfold ixF;rw[c];rfl]
  (repeat'((conv=>whnf);refine zN ?_));(all_goals(conv=>whnf))
  all_goals exact zE
theorem RW (l:List Qu) (a:l.length<=1000000) (c:∀q∈l,q.1.length<=4000000/\q.2.length<=1000000):aC 364 [.d (rG l),.d (.fn 365 [])] (bv (!l.all quN)):=by
 have b:=RV l a c
 rw[<-RU]
 refine acQ 9 Tryz.func364 rfl rfl fun d _ _=> ?_
 (repeat'((conv=>whnf);refine Al b P9 ?_));(all_goals(conv=>whnf))
 all_goals exact zE
structure polM (l:List Po):Prop where
 n:l.length<=1000000
 o:∀p∈l,p.1.length<=4000000/\p.2.length<=1000000
 q:∀p∈l,∀q∈p.2,q.1.length<=4000000/\q.2.length<=1000000
theorem ZS (l:List Qu):(l.any fun q=> !H7 q.1|| !Gt q.2)= !l.all quN:=by
 induction l with
 |nil=>rfl
 |cons a r b=>rw[List.any_cons,List.all_cons,b];unfold quN;cases H7 a.1<;>cases Gt a.2<;>rfl
theorem wR (l:List Po) (h:polM l):aC 298 [.d (iK l)] (bv (Um [] l&& !l.isEmpty)):=by
 have M:=h.n
 generalize J:Um [] l=R
 refine acQ 33 Tryz.func298 rfl rfl fun C _ _=> ?_
 (repeat'((conv=>whnf);((refine NStep.some (Ku 9 rfl rfl (ltN rfl)) ?_;rintro _ ⟨m,rfl⟩;rw[qC]))));(all_goals(conv=>whnf))
 refine Fh (fun z:Nat×List (List UInt8)=>z.1<=l.length/\Um z.2 (l.drop z.1)=R) (fun z=>l.length-z.1) (fun z=>⟨[(0,.d (iK l)),(3,Kl Tryz.prog 9 C.heap.size m z.1 (dD z.2)),(7,.d (iK l)),(8,iv l.length),(9,iv z.1)],[],[]⟩) (0,[]) ⟨Ab,J⟩ leQ ?_
 rintro⟨i,s⟩ ⟨I,a⟩
 simp only at I a
 by_cases g:i<l.length
 rotate_left
 ·have F:decide ((i:Int)<(l.length:Int))=false:=Ao Aa
  rw[Bp Aa,Um] at a
  subst a
  have e:(true&& !l.isEmpty)=decide ((l.length:Int)>0):=by cases l with
   |nil=>rfl
   |cons x r=>rw[Aq (by rw[D9];omega)];rfl
  rw[e]
  (repeat'((conv=>whnf);refine zN ?_));(all_goals(conv=>whnf))
  all_goals exact zE
 have F:decide ((i:Int)<(l.length:Int))=true:=Aq Aa
 obtain⟨x,d⟩:∃p,l[i]?=some p:=⟨_,Ev g⟩
 have q:l.drop i=x::l.drop (i+1):=by
  obtain⟨A,K⟩:=Ew.1 d
  rw[<-K];exact A5 A
 have y:=F9 d
 obtain⟨E,o⟩:=h.o x y
 have f:=Kq x.1 E
 have n:=RW x.2 o (h.q x y)
 rw[q,Um,ZS] at a
 have b:x.1.length<=1000000000:=Aa
 have j:∀B fp w bm gt,RA B fp w bm gt (bv (s.contains x.1)) (((dD s) (.string x.1)).getD (.bool false)):=fun B fp w bm gt=>by rw[qT];exact .d (.v _)
 obtain⟨c,H⟩:=x
 simp only at*
 generalize L:s.contains c=k at j a
 generalize H7 c=v at f a
 generalize H.all quN=u at n a
 cases v
 ·rw[Aj Ab] at a
  subst a
  (repeat'((conv=>whnf);first|refine zP ?_|refine zN ?_|refine Ej ?_|refine Ee ?_|refine NIdx.tab (fun _=>rfl) d ?_|refine Al f rfl ?_|exact zE))
 cases k
 rotate_left
 ·rw[Aj Ab] at a
  subst a
  (repeat'((conv=>whnf);first|refine zP ?_|refine zN ?_|refine Ej ?_|refine Ee ?_|refine NIdx.tab (fun _=>rfl) d ?_|(refine Cs (Km rfl rfl (ltN rfl) rfl rfl (Eg.ty rfl).u E2 (Fq c b) (Eg.ty rfl).zero j) ?_)|refine Al f rfl ?_|exact zE))
 rw[Ai Ab] at a
 cases u
 ·rw[Aj Ab] at a
  subst a
  (repeat'((conv=>whnf);first|refine zP ?_|refine zN ?_|refine Ej ?_|refine Ee ?_|refine NIdx.tab (fun _=>rfl) d ?_|(refine Cs (Km rfl rfl (ltN rfl) rfl rfl (Eg.ty rfl).u E2 (Fq c b) (Eg.ty rfl).zero j) ?_)|refine Al f rfl ?_|refine Al n P9 ?_|((refine Fx (Fk [3] rfl rfl rfl rfl rfl (fun _ _ _ _ _ _ h=>h.val) (fun s t=>by obtain rfl:=Bh.1 t;rfl) (Eg.ty rfl).u E2 (Fq c b) (by unfold maxLen;omega)) ?_;rw[dE]))|exact zE))
 rw[Ai Ab] at a
 (repeat'((conv=>whnf);first|refine zP ?_|refine zN ?_|refine Ej ?_|refine Ee ?_|refine NIdx.tab (fun _=>rfl) d ?_|(refine Cs (Km rfl rfl (ltN rfl) rfl rfl (Eg.ty rfl).u E2 (Fq c b) (Eg.ty rfl).zero j) ?_)|refine Al f rfl ?_|refine Al n P9 ?_|((refine Fx (Fk [3] rfl rfl rfl rfl rfl (fun _ _ _ _ _ _ h=>h.val) (fun s t=>by obtain rfl:=Bh.1 t;rfl) (Eg.ty rfl).u E2 (Fq c b) (by unfold maxLen;omega)) ?_;rw[dE]))|(with_reducible refine NInt.i64 ?_)));(all_goals(conv=>whnf))
 refine⟨(i+1,c::s),⟨g,a⟩,by simp only;omega,?_⟩
 exact leQ
theorem eC (s:List UInt8) (b:s.length<=4000000):aC 368 [sx s] (bv (P8 s)):=by
 have a:=Kq s b
 unfold P8
 generalize H7 s=v at a|-
 cases v
 all_goals
  refine acQ 9 Tryz.func368 rfl rfl fun c _ _=> ?_
  (repeat'((conv=>whnf);first|refine Ej ?_|refine Ee ?_|refine Al a rfl ?_|exact zE))
def mpN (m:Qu):Bool:=P8 m.1&&P8 m.2
abbrev ij:AV:= .cl 370 [] [.d (.cp false [.fn 368 []])]
theorem ZT (m:Qu) (c:m.1.length<=4000000) (d:m.2.length<=4000000):aC 370 [.agg [sx m.1,sx m.2],.d (.cp false [.fn 368 []])] (bv (!mpN m)):=by
 have a:=eC m.1 c
 have b:=eC m.2 d
 unfold mpN
 obtain⟨s,v⟩:=m
 simp only at*
 generalize P8 v=w at b|-
 generalize P8 s=u at a|-
 cases u
 all_goals
  refine acQ 16 Tryz.func370 rfl rfl fun e _ _=> ?_
  (repeat'((conv=>whnf);first|refine Ej ?_|refine Ee ?_|refine Al a rfl ?_|refine Al b rfl ?_|exact zE))
theorem RX (l:List Qu) (o:l.length<=1000000) (j:∀q∈l,q.1.length<=4000000/\q.2.length<=4000000):aC 400 [.d (IR l),ij] (iv (ixF mpN l)):=by
 refine acQ 19 Tryz.func400 rfl rfl fun r _ _=> ?_
 (all_goals(conv=>whnf))
 refine Fh (fun i:Nat=>i<=l.length/\(l.take i).all mpN=true) (fun i=>l.length-i) (fun i=>⟨[(0,.d (IR l)),(1,ij),(7,iv l.length),(8,iv i)],[],[]⟩) 0 ⟨Aa,rfl⟩ leQ ?_
 rintro i ⟨s,c⟩
 by_cases f:i<l.length
 ·have n:decide ((i:Int)<l.length)=true:=Aq Aa
  obtain⟨b,a⟩:∃p,l[i]?=some p:=⟨_,Ev f⟩
  obtain⟨g,k⟩:=j b (F9 a)
  have d:=ZT b g k
  cases e:mpN b
  ·rw[e] at d
   obtain⟨h,m⟩:=yZ mpN c a e
   rw[show ixF mpN l=i by unfold ixF;rw[m,h];rfl]
   (repeat'((conv=>whnf);first|refine zP ?_|refine zN ?_|refine Ej ?_|refine Ee ?_|refine NIdx.tab (fun _=>rfl) a ?_|refine Al d rfl ?_|exact zE))
  ·rw[e] at d
   (repeat'((conv=>whnf);first|refine zP ?_|refine zN ?_|refine Ej ?_|refine Ee ?_|refine NIdx.tab (fun _=>rfl) a ?_|refine Al d rfl ?_|(with_reducible refine NInt.i64 ?_)));(all_goals(conv=>whnf))
   refine⟨i+1,⟨Aa,Og mpN a e c⟩,Aa,?_⟩
   exact leQ
 ·have n:decide ((i:Int)<l.length)=false:=Ao Aa
  obtain rfl:i=l.length:=Aa
  rw[Bv] at c
  rw[show ixF mpN l= -1 by unfold ixF;rw[c];rfl]
  (repeat'((conv=>whnf);refine zN ?_));(all_goals(conv=>whnf))
  all_goals exact zE
theorem RY (l:List Qu) (a:l.length<=1000000) (c:∀q∈l,q.1.length<=4000000/\q.2.length<=4000000):aC 369 [.d (IR l),ij] (bv (!l.all mpN)):=by
 have b:=RX l a c
 rw[<-RU]
 refine acQ 9 Tryz.func369 rfl rfl fun d _ _=> ?_
 (repeat'((conv=>whnf);refine Al b P9 ?_));(all_goals(conv=>whnf))
 all_goals exact zE
theorem IS (l:List Qu) (c:l.length<=1000000) (d:∀q∈l,q.1.length<=4000000/\q.2.length<=4000000):aC 308 [.d (IR l)] (bv (!l.isEmpty&&l.all mpN)):=by
 have a:=RY l c d
 cases l with
 |nil=>
  refine acQ 13 Tryz.func308 rfl rfl fun b _ _=> ?_
  (repeat'((conv=>whnf);refine Ee ?_));(all_goals(conv=>whnf))
  all_goals exact zE
 |cons x r=>
  have e:decide ((((x::r).length:Nat):Int)>0)=true:=Aq (by rw[D9];omega)
  rw[show(!(x::r).isEmpty&&(x::r).all mpN)=(x::r).all mpN from rfl]
  generalize (x::r).all mpN=q at a|-
  generalize x::r=l at*
  refine acQ 13 Tryz.func308 rfl rfl fun b _ _=> ?_
  (repeat'((conv=>whnf);first|refine zP ?_|refine zN ?_|refine Ej ?_|refine Ee ?_|refine Al a P9 ?_));(all_goals(conv=>whnf))
  all_goals(refine E0 ?_;(repeat'(first|refine A1 ?_ ?_|exact rfl));(all_goals(conv=>whnf)))
  all_goals(first|rw[Bool.not_not]|skip)
theorem K7 {p:Prop} (h:p:=by first|rfl|(simp only[D8,AV.ren,AV.give,D.un,Ef,D7,D6,Ap,Am,Ak,Ea,Ed,Ep,Eo];first|done|rfl)):p:=h
theorem RZ (b:List UInt8) (B:b.length<=800000):PC Tryz.prog 304 900 8000 [.d (By false b),.ptr 900 0] [sx [],Ff] (fun r c=>r=bv (Kb b).2/\c=[sx (Kb b).1,Ff]):=by
 have a:=Hj b Aa
 have z:=Fa b
 unfold Kb
 generalize Em b=o at a z|-
 obtain⟨x,c,f⟩:=o
 rw[erR] at a
 simp only at z a|-
 by_cases h:c≠0
 ·rw[Aj (by simp[h])]
  have g:((c:Int) !=0)=true:=by rw[Av];omega
  refine pcY 8000 37 [301,367,304] Tryz.func304 rfl rfl fun y _ _ _ m n p l j i=> ?_
  (repeat'((conv=>whnf);first|refine zP ?_|refine zN ?_|refine Ej ?_|refine Ee ?_|refine cY ?_|refine Al a K7 ?_|exact z7))
 obtain rfl:c=0:=As.1 h
 have u:=Fo x 0 6 false
 cases w:x.isB 0 6 false
 ·rw[w] at u
  rw[Aj Ab]
  refine pcY 8000 37 [301,367,304] Tryz.func304 rfl rfl fun y _ _ _ m n p l j i=> ?_
  (repeat'((conv=>whnf);first|refine Ej ?_|refine Ee ?_|refine cY ?_|refine Al a K7 ?_|refine Al u rfl ?_|exact z7))
 rw[w] at u
 rw[Ai Ab]
 obtain⟨d,v⟩:∃q,bod b x=q:=⟨_,rfl⟩
 have A:d.length<=b.length:=by rw[<-v];unfold bod;rw[Ec,Eh];omega
 rw[v]
 have s:=G5 d Aa
 unfold bod at v
 rw[Ox] at s
 generalize odT d=t at s|-
 generalize odC d=k at s|-
 have e:((k:Int)==0)=(k==0):=by rw[Bz,A9,A9];omega
 simp only
 rw[<-e]
 refine pcY 8000 37 [301,367,304] Tryz.func304 rfl rfl fun y _ _ _ m n p l j i=> ?_
 (repeat'((conv=>whnf);first|refine Ee ?_|refine cY ?_|refine Cs (Eb rfl rfl (ltN rfl) rfl) ?_|refine Al a K7 ?_|refine Al u rfl ?_|(refine NSl.bytes x.body x.stop d v ?_)|refine Al s K7 ?_|exact z7))
theorem SA (b:List UInt8) (B:b.length<=800000):PC Tryz.prog 304 901 8000 [.d (By false b),.ptr 901 0] [sx [],Ff] (fun r c=>r=bv (Kb b).2/\c=[sx (Kb b).1,Ff]):=by
 have a:=Hj b Aa
 have z:=Fa b
 unfold Kb
 generalize Em b=o at a z|-
 obtain⟨x,c,f⟩:=o
 rw[erR] at a
 simp only at z a|-
 by_cases h:c≠0
 ·rw[Aj (by simp[h])]
  have g:((c:Int) !=0)=true:=by rw[Av];omega
  refine pcY 8000 37 [301,367,304] Tryz.func304 rfl rfl fun y _ _ _ m n p l j i=> ?_
  (repeat'((conv=>whnf);first|refine zP ?_|refine zN ?_|refine Ej ?_|refine Ee ?_|refine cY ?_|refine Al a K7 ?_|exact z7))
 obtain rfl:c=0:=As.1 h
 have u:=Fo x 0 6 false
 cases w:x.isB 0 6 false
 ·rw[w] at u
  rw[Aj Ab]
  refine pcY 8000 37 [301,367,304] Tryz.func304 rfl rfl fun y _ _ _ m n p l j i=> ?_
  (repeat'((conv=>whnf);first|refine Ej ?_|refine Ee ?_|refine cY ?_|refine Al a K7 ?_|refine Al u rfl ?_|exact z7))
 rw[w] at u
 rw[Ai Ab]
 obtain⟨d,v⟩:∃q,bod b x=q:=⟨_,rfl⟩
 have A:d.length<=b.length:=by rw[<-v];unfold bod;rw[Ec,Eh];omega
 rw[v]
 have s:=G5 d Aa
 unfold bod at v
 rw[Ox] at s
 generalize odT d=t at s|-
 generalize odC d=k at s|-
 have e:((k:Int)==0)=(k==0):=by rw[Bz,A9,A9];omega
 simp only
 rw[<-e]
 refine pcY 8000 37 [301,367,304] Tryz.func304 rfl rfl fun y _ _ _ m n p l j i=> ?_
 (repeat'((conv=>whnf);first|refine Ee ?_|refine cY ?_|refine Cs (Eb rfl rfl (ltN rfl) rfl) ?_|refine Al a K7 ?_|refine Al u rfl ?_|(refine NSl.bytes x.body x.stop d v ?_)|refine Al s K7 ?_|exact z7))
theorem SB (b:List UInt8) (B:b.length<=800000):PC Tryz.prog 304 901 8000 [.d (By false b),.ptr 901 0] [sx [],Ff] (fun r c=>r=bv (Kb b).2/\c=[sx (Kb b).1,.d (ZN [])]):=by
 have a:=Hj b Aa
 have z:=Fa b
 unfold Kb
 generalize Em b=o at a z|-
 obtain⟨x,c,f⟩:=o
 rw[erR] at a
 simp only at z a|-
 by_cases h:c≠0
 ·rw[Aj (by simp[h])]
  have g:((c:Int) !=0)=true:=by rw[Av];omega
  refine pcY 8000 37 [301,367,304] Tryz.func304 rfl rfl fun y _ _ _ m n p l j i=> ?_
  (repeat'((conv=>whnf);first|refine zP ?_|refine zN ?_|refine Ej ?_|refine Ee ?_|refine cY ?_|refine Al a K7 ?_|exact z7))
 obtain rfl:c=0:=As.1 h
 have u:=Fo x 0 6 false
 cases w:x.isB 0 6 false
 ·rw[w] at u
  rw[Aj Ab]
  refine pcY 8000 37 [301,367,304] Tryz.func304 rfl rfl fun y _ _ _ m n p l j i=> ?_
  (repeat'((conv=>whnf);first|refine Ej ?_|refine Ee ?_|refine cY ?_|refine Al a K7 ?_|refine Al u rfl ?_|exact z7))
 rw[w] at u
 rw[Ai Ab]
 obtain⟨d,v⟩:∃q,bod b x=q:=⟨_,rfl⟩
 have A:d.length<=b.length:=by rw[<-v];unfold bod;rw[Ec,Eh];omega
 rw[v]
 have s:=G5 d Aa
 unfold bod at v
 rw[Ox] at s
 generalize odT d=t at s|-
 generalize odC d=k at s|-
 have e:((k:Int)==0)=(k==0):=by rw[Bz,A9,A9];omega
 simp only
 rw[<-e]
 refine pcY 8000 37 [301,367,304] Tryz.func304 rfl rfl fun y _ _ _ m n p l j i=> ?_
 (repeat'((conv=>whnf);first|refine Ee ?_|refine cY ?_|refine Cs (Eb rfl rfl (ltN rfl) rfl) ?_|refine Al a K7 ?_|refine Al u rfl ?_|(refine NSl.bytes x.body x.stop d v ?_)|refine Al s K7 ?_|exact z7))
theorem SC (b:List UInt8) (B:b.length<=800000):PC Tryz.prog 304 900 8000 [.d (By false b),.ptr 900 0] [sx [],sx []] (fun r c=>r=bv (Kb b).2/\c=[sx (Kb b).1,sx []]):=by
 have a:=Hj b Aa
 have z:=Fa b
 unfold Kb
 generalize Em b=o at a z|-
 obtain⟨x,c,f⟩:=o
 rw[erR] at a
 simp only at z a|-
 by_cases h:c≠0
 ·rw[Aj (by simp[h])]
  have g:((c:Int) !=0)=true:=by rw[Av];omega
  refine pcY 8000 37 [301,367,304] Tryz.func304 rfl rfl fun y _ _ _ m n p l j i=> ?_
  (repeat'((conv=>whnf);first|refine zP ?_|refine zN ?_|refine Ej ?_|refine Ee ?_|refine cY ?_|refine Al a K7 ?_|exact z7))
 obtain rfl:c=0:=As.1 h
 have u:=Fo x 0 6 false
 cases w:x.isB 0 6 false
 ·rw[w] at u
  rw[Aj Ab]
  refine pcY 8000 37 [301,367,304] Tryz.func304 rfl rfl fun y _ _ _ m n p l j i=> ?_
  (repeat'((conv=>whnf);first|refine Ej ?_|refine Ee ?_|refine cY ?_|refine Al a K7 ?_|refine Al u rfl ?_|exact z7))
 rw[w] at u
 rw[Ai Ab]
 obtain⟨d,v⟩:∃q,bod b x=q:=⟨_,rfl⟩
 have A:d.length<=b.length:=by rw[<-v];unfold bod;rw[Ec,Eh];omega
 rw[v]
 have s:=G5 d Aa
 unfold bod at v
 rw[Ox] at s
 generalize odT d=t at s|-
 generalize odC d=k at s|-
 have e:((k:Int)==0)=(k==0):=by rw[Bz,A9,A9];omega
 simp only
 rw[<-e]
 refine pcY 8000 37 [301,367,304] Tryz.func304 rfl rfl fun y _ _ _ m n p l j i=> ?_
 (repeat'((conv=>whnf);first|refine Ee ?_|refine cY ?_|refine Cs (Eb rfl rfl (ltN rfl) rfl) ?_|refine Al a K7 ?_|refine Al u rfl ?_|(refine NSl.bytes x.body x.stop d v ?_)|refine Al s K7 ?_|exact z7))
theorem Iz (n:Nat):aC 307 [iv n] (.agg [iv 6,iv n]):=by
 refine acQ 5 Tryz.func307 rfl rfl fun _ _ _=> ?_
 (all_goals(conv=>whnf))
 all_goals exact zE
def SD (b:List UInt8):Bool×List UInt8×List UInt8:=match X9 b 2 2 with
 |some [x,y]=>if(Kb (elO b x)).2=false then(false,(Kb (elO b x)).1,[]) else(Gt (elO b y),(Kb (elO b x)).1,elO b y)
 |_=>(false,[],[])
theorem im (b:List UInt8):QE b=if(SD b).1=true then some (SD b).2 else none:=by
 unfold QE SD
 generalize X9 b 2 2=R
 rcases R with _|(_|⟨x,_|⟨y,_|⟨z,r⟩⟩⟩)<;>try rfl
 simp only
 generalize Kb (elO b x)=P
 obtain⟨s,k⟩:=P
 cases k
 ·rfl
 ·generalize Gt (elO b y)=w
  cases w<;>rfl
end Go.Proofs.YtbedjionhmaafaaGreatDoor
