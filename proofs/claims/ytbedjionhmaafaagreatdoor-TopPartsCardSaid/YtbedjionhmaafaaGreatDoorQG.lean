/- QG: Tbp Tbq Tbs Tbr Tkt Tbd Tbm Cpa. No condition. -/
import Derived.Test.YtbedjionhmaafaaGreatDoorQF
set_option linter.all false
namespace Go.Proofs.YtbedjionhmaafaaGreatDoor
open Go.RowKit
set_option maxRecDepth 100000
set_option maxHeartbeats 16000000
variable {b:List UInt8} {s s':Src} {p:Prop}
theorem Lx (n c o:Nat) (h:s.In b):(s.fail n c o).In b:=by
 unfold Src.fail;split<;>exact h
theorem G8 {a:Type} {z:a} {p:List UInt8->a×Nat×Nat} {v:a} (h:s.In b) (e:E5 b z p s=(v,s')):s'.In b:=by
 obtain⟨l,c,o⟩:=s
 unfold E5 at e
 split at e
 ·cases e;exact h
 ·cases l with
  |nil=>cases e;exact Lx _ _ _ h
  |cons x r=>cases e;exact Lx _ _ _ fun y d=>h y (Be _ d)
theorem Zx {v:Nat} (h:s.In b) (e:Nz b s=(v,s')):s'.In b:=by
 unfold Nz at e
 generalize a:Mg true 0 s=R at e
 obtain⟨_|x,c⟩:=R
 ·cases e;exact(Nb h a).1
 ·simp only at e
  split at e
  ·cases e;exact Lx _ _ _ (Nb h a).1
  ·cases e;exact(Nb h a).1
theorem T3 {n:Nat} {v:Bool×List UInt8×Nat} (h:s.In b) (e:Kn n b s=(v,s')):s'.In b:=by
 unfold Kn at e
 generalize a:Mg false n s=R at e
 obtain⟨_|x,c⟩:=R
 ·cases e;exact(Nb h a).1
 ·simp only at e
  split at e
  ·cases e;exact Lx _ _ _ (Nb h a).1
  ·cases e;exact(Nb h a).1
theorem W5 (b:List UInt8):(H1 b).In b:=by
 unfold H1
 split
 ·intro x a;cases a
 ·exact fun x a=>Ez a
def iG (q:Bool) (nm:List (List Att)->D) (ex:List Ext->D) (t:Tbs):List AV:=iv t.ver:: .d (By q t.ser)::sx t.sig.oid:: .d (By q t.sig.par):: .d (nm t.iss)::(tmC t.na++(tmC t.nb++[.d (nm t.sub),sx t.key.a.oid,.d (By q t.key.a.par),.d (By q t.key.l),iv t.key.u,bv t.hi,.d (By q t.il),iv t.iu,bv t.hs,.d (By q t.sl),iv t.su,.d (ex t.ext)]))
def Zc (t:Tbs):AV:= .agg (iG false Kz Ph t)
def ll (t:Tbs):AV:= .agg (iG true gX Px t)
def tbR (r:Tbs×Nat×Nat):AV:= .tup [ll r.1,erA r.2.1 r.2.2]
def IP:List AV:=iG true gX Px .z
def s4S (b:List UInt8):Src:=match Nz b (H1 b) with
 |(_,s1)=>match E5 b [] M3 s1 with
 |(_,s2)=>match E5 b .z Ju s2 with
 |(_,s3)=>match E5 b [] nmO s3 with
 |(_,s4)=>s4
theorem N0 (h:p:=by first|rfl|(simp only[D8,AV.ren,AV.give,D.un,Ef,D7,D6,Ap,Am,Ak,Ea,Ed,Ep,Eo,Ex,Fi,Ho,Ib,Hm,naA,seA];first|done|rfl)):p:=h
theorem RE (h:p:=by((try simp only[D8,AV.ren,AV.give,D.un,Ef,D7,D6,Ap,Am,Ak,Ea,Ed,Ep,Eo,Ex,Fi,Ho,Ib,Hm,naA,seA]);(repeat'(first|exact trivial|exact Er _|refine A1 ?_ ?_|exact rfl|exact Cv rfl|exact Cz rfl|exact Cz Ah|omega|refine Cv ?_));first|done|fail)):p:=h
theorem RF (V:Tbs->Bool) (b:List UInt8) (m:b.length<=100000) (a:aC 63 [Zc (Mh b).1] (bv (V (Mh b).1))) (j:∃l,nxA b (s4S b)=(.tup [elA .zero,.d (By true [])],l)/\E5 b (.z,.z) Il (s4S b)=((.z,.z),l)/\l.c≠0/\l.In b):aC 16 [.d (By false b)] (tbR (M4 V b)):=by
 have f:=Fc b 0 16 Aa
 have d:lrA (Dn b 0 16)= .tup [.d (Gw (H1 b).l),erA (H1 b).c (H1 b).o]\/lrA (Dn b 0 16)= .tup [Ff,erA (H1 b).c (H1 b).o]/\(H1 b).l=[]:=by
  unfold lrA H1
  by_cases h:(Dn b 0 16).code≠0
  ·rw[Aj h,Aj h];exact .inr ⟨rfl,rfl⟩
  ·rw[Ai h,Ai h];exact .inl rfl
 have P:=W5 b
 unfold M4
 unfold Mh at a|-
 unfold s4S at j
 generalize H1 b=s0 at d P j a|-
 have H:=gy b s0 P m
 generalize c:Nz b s0=R at H j a|-
 obtain⟨v,s1⟩:=R
 have X:=Zx P c
 clear c
 have C:=QX b s1 X m
 simp only at j a H C|-
 generalize c:E5 b [] M3 s1=R at C j a|-
 obtain⟨se,s2⟩:=R
 have i2:=G8 X c
 clear c
 have A:=BP b s2 i2 m
 simp only at j a C A|-
 generalize c:E5 b .z Ju s2=R at A j a|-
 obtain⟨sg,s3⟩:=R
 have W:=G8 i2 c
 clear c
 have r:=Yd b s3 W m
 simp only at j a A r|-
 generalize c:E5 b [] nmO s3=R at r j a|-
 obtain⟨is,s4⟩:=R
 have i4:=G8 W c
 clear c
 simp only at j a r|-
 have J:=Un b s4 i4 Aa
 rcases j with⟨l,Y,n2,n3,i5⟩
 ·rw[Y] at J
  rw[n2] at a|-
  have gz:((l.c:Int)==0)=false:=by rw[An];omega
  clear Y n2 n3
  have I:=Yd b l i5 m
  generalize c:E5 b [] nmO l=R at I a|-
  obtain⟨su,s6⟩:=R
  have Z:=G8 i5 c
  clear c
  have F:=RB b s6 Z m
  simp only at a I F|-
  generalize c:E5 b .z O6 s6=R at F a|-
  obtain⟨ky,s7⟩:=R
  have T:=G8 Z c
  clear c
  have z:=IN b s7 1 T m
  simp only at a F z|-
  generalize c:Kn 1 b s7=R at z a|-
  obtain⟨⟨q1,l1,u1⟩,s8⟩:=R
  have i8:=T3 T c
  clear c
  have n:=IN b s8 2 i8 m
  simp only at a z n|-
  generalize c:Kn 2 b s8=R at n a|-
  obtain⟨⟨q2,l2,u2⟩,s9⟩:=R
  have U:=T3 i8 c
  clear c
  have i:=QS b s9 true 3 U Aa
  simp only at a n|-
  unfold Sb at a|-
  generalize hE:Mg true 3 s9=R at i a|-
  obtain⟨_|y,s'⟩:=R
  ·simp only at i a|-
   generalize Q:V _=w at a|-
   clear Q
   have o:=QT b s' w
   generalize P7 b w s'=S at o|-
   obtain⟨lz,k,oz⟩:=S
   by_cases x:k≠0
   ·simp only
    rw[Aj x]
    have g:((k:Int) !=0)=true:=by rw[Av];omega
    clear x
    refine acY 121 [51,50,61,52,60,21,14,53,17,55,58] Tryz.func16 rfl rfl fun _ _ _=> ?_
    (all_goals(conv=>whnf))
    refine G6 ⟨[(0,.d (By false b)),(2,.ptr 2 0),(3,.ptr 3 0),(17,.ptr 900 0)],[(2,IP),(3,[iv 0,iv 0]),(900,K6 b s0)],[]⟩ ?_ ?_
    ·rcases d with d|⟨d,u⟩
     ·rw[d] at f
      (repeat'((conv=>whnf);first|refine inY 886 15 [51,50,61,52,60,21,14,53,17,55,58,19,15] Tryz.func14 rfl rfl rfl rfl fun t=> ?_|refine Al f N0 ?_));(all_goals(conv=>whnf))
      all_goals exact J6
     ·rw[d] at f
      obtain⟨E,N,O⟩:=s0
      obtain rfl:E=[]:=u
      (repeat'((conv=>whnf);first|refine inY 886 15 [51,50,61,52,60,21,14,53,17,55,58,19,15] Tryz.func14 rfl rfl rfl rfl fun t=> ?_|refine Al f N0 ?_));(all_goals(conv=>whnf))
      all_goals exact J6
    (repeat'((conv=>whnf);first|refine zP ?_|refine zN ?_|refine Ej ?_|refine Ee ?_|refine Cs (Eb rfl rfl (ltN rfl) rfl) ?_|refine pQ H ?_|refine pQ C ?_|refine pQ A ?_|refine pQ r ?_|refine pQ J ?_|refine pQ I ?_|refine pQ F ?_|refine pQ z ?_|refine pQ n ?_|refine pQ i ?_|refine H0 a RE ?_|refine pQ o ?_|refine zF ?_|exact zE))
   ·simp only
    rw[Ai x]
    have g:((k:Int) !=0)=false:=by rw[B1];omega
    refine acY 121 [51,50,61,52,60,21,14,53,17,55,58] Tryz.func16 rfl rfl fun _ _ _=> ?_
    (all_goals(conv=>whnf))
    refine G6 ⟨[(0,.d (By false b)),(2,.ptr 2 0),(3,.ptr 3 0),(17,.ptr 900 0)],[(2,IP),(3,[iv 0,iv 0]),(900,K6 b s0)],[]⟩ ?_ ?_
    ·rcases d with d|⟨d,u⟩
     ·rw[d] at f
      (repeat'((conv=>whnf);first|refine inY 886 15 [51,50,61,52,60,21,14,53,17,55,58,19,15] Tryz.func14 rfl rfl rfl rfl fun t=> ?_|refine Al f N0 ?_));(all_goals(conv=>whnf))
      all_goals exact J6
     ·rw[d] at f
      obtain⟨E,N,O⟩:=s0
      obtain rfl:E=[]:=u
      (repeat'((conv=>whnf);first|refine inY 886 15 [51,50,61,52,60,21,14,53,17,55,58,19,15] Tryz.func14 rfl rfl rfl rfl fun t=> ?_|refine Al f N0 ?_));(all_goals(conv=>whnf))
      all_goals exact J6
    (repeat'((conv=>whnf);first|refine zP ?_|refine zN ?_|refine Ej ?_|refine Ee ?_|refine Cs (Eb rfl rfl (ltN rfl) rfl) ?_|refine pQ H ?_|refine pQ C ?_|refine pQ A ?_|refine pQ r ?_|refine pQ J ?_|refine pQ I ?_|refine pQ F ?_|refine pQ z ?_|refine pQ n ?_|refine pQ i ?_|refine H0 a RE ?_|refine pQ o ?_|exact zE))
  ·obtain⟨-,hy⟩:=Nb U hE
   obtain⟨y1,y2,y3⟩:=hy y rfl
   simp only at i a|-
   obtain⟨e,L⟩:∃q,bod b y=q:=⟨_,rfl⟩
   have le:e.length<=b.length:=by rw[<-L];unfold bod;rw[Ec,Eh];omega
   rw[L] at a|-
   unfold bod at L
   have K:=dU e Aa
   have oX:=rD e Aa
   generalize Ub e=R at K oX a|-
   obtain⟨ex,cx,M⟩:=R
   rw[gw] at K
   simp only at K oX a|-
   have B:=Ns b s' cx (y.body+M)
   generalize Src.fail b.length s' cx (y.body+M)=s'' at B|-
   generalize Q:V _=w at a|-
   clear Q
   have o:=QT b s'' w
   generalize P7 b w s''=S at o|-
   obtain⟨lz,k,oz⟩:=S
   by_cases x:k≠0
   ·simp only
    rw[Aj x]
    have g:((k:Int) !=0)=true:=by rw[Av];omega
    clear x
    refine acY 121 [51,50,61,52,60,21,14,53,17,55,58] Tryz.func16 rfl rfl fun _ _ _=> ?_
    (all_goals(conv=>whnf))
    refine G6 ⟨[(0,.d (By false b)),(2,.ptr 2 0),(3,.ptr 3 0),(17,.ptr 900 0)],[(2,IP),(3,[iv 0,iv 0]),(900,K6 b s0)],[]⟩ ?_ ?_
    ·rcases d with d|⟨d,u⟩
     ·rw[d] at f
      (repeat'((conv=>whnf);first|refine inY 886 15 [51,50,61,52,60,21,14,53,17,55,58,19,15] Tryz.func14 rfl rfl rfl rfl fun t=> ?_|refine Al f N0 ?_));(all_goals(conv=>whnf))
      all_goals exact J6
     ·rw[d] at f
      obtain⟨E,N,O⟩:=s0
      obtain rfl:E=[]:=u
      (repeat'((conv=>whnf);first|refine inY 886 15 [51,50,61,52,60,21,14,53,17,55,58,19,15] Tryz.func14 rfl rfl rfl rfl fun t=> ?_|refine Al f N0 ?_));(all_goals(conv=>whnf))
      all_goals exact J6
    (repeat'((conv=>whnf);first|refine zP ?_|refine zN ?_|refine Ej ?_|refine Ee ?_|refine NLa.mk ⟨_,Hk rfl rfl (ltN rfl) rfl,?_⟩|refine Cs (Eb rfl rfl (ltN rfl) rfl) ?_|refine pQ H ?_|refine pQ C ?_|refine pQ A ?_|refine pQ r ?_|refine pQ J ?_|refine pQ I ?_|refine pQ F ?_|refine pQ z ?_|refine pQ n ?_|refine pQ i ?_|(refine NSl.bytes y.body y.stop e L ?_)|refine Al K N0 ?_|refine NInt.as (((y.body+M:Nat):Int)) ((by rw[Bl _ Aa];omega)) ?_|refine pQ B ?_|refine Al a N0 ?_|refine pQ o ?_|refine zF ?_|exact zE))
   ·simp only
    rw[Ai x]
    have g:((k:Int) !=0)=false:=by rw[B1];omega
    refine acY 121 [51,50,61,52,60,21,14,53,17,55,58] Tryz.func16 rfl rfl fun _ _ _=> ?_
    (all_goals(conv=>whnf))
    refine G6 ⟨[(0,.d (By false b)),(2,.ptr 2 0),(3,.ptr 3 0),(17,.ptr 900 0)],[(2,IP),(3,[iv 0,iv 0]),(900,K6 b s0)],[]⟩ ?_ ?_
    ·rcases d with d|⟨d,u⟩
     ·rw[d] at f
      (repeat'((conv=>whnf);first|refine inY 886 15 [51,50,61,52,60,21,14,53,17,55,58,19,15] Tryz.func14 rfl rfl rfl rfl fun t=> ?_|refine Al f N0 ?_));(all_goals(conv=>whnf))
      all_goals exact J6
     ·rw[d] at f
      obtain⟨E,N,O⟩:=s0
      obtain rfl:E=[]:=u
      (repeat'((conv=>whnf);first|refine inY 886 15 [51,50,61,52,60,21,14,53,17,55,58,19,15] Tryz.func14 rfl rfl rfl rfl fun t=> ?_|refine Al f N0 ?_));(all_goals(conv=>whnf))
      all_goals exact J6
    (repeat'((conv=>whnf);first|refine zP ?_|refine zN ?_|refine Ej ?_|refine Ee ?_|refine NLa.mk ⟨_,Hk rfl rfl (ltN rfl) rfl,?_⟩|refine Cs (Eb rfl rfl (ltN rfl) rfl) ?_|refine pQ H ?_|refine pQ C ?_|refine pQ A ?_|refine pQ r ?_|refine pQ J ?_|refine pQ I ?_|refine pQ F ?_|refine pQ z ?_|refine pQ n ?_|refine pQ i ?_|(refine NSl.bytes y.body y.stop e L ?_)|refine Al K N0 ?_|refine NInt.as (((y.body+M:Nat):Int)) ((by rw[Bl _ Aa];omega)) ?_|refine pQ B ?_|refine Al a N0 ?_|refine pQ o ?_|refine zF ?_|exact zE))
def s9S (b:List UInt8):Src:=match Nz b (H1 b) with
 |(_,s1)=>match E5 b [] M3 s1 with
 |(_,s2)=>match E5 b .z Ju s2 with
 |(_,s3)=>match E5 b [] nmO s3 with
 |(_,s4)=>match E5 b (.z,.z) Il s4 with
 |(_,s5)=>match E5 b [] nmO s5 with
 |(_,s6)=>match E5 b .z O6 s6 with
 |(_,s7)=>match Kn 1 b s7 with
 |(_,s8)=>match Kn 2 b s8 with
 |(_,s9)=>s9
theorem wL (h:p:=by first|rfl|(simp only[D8,AV.ren,AV.give,D.un,Ef,D7,D6,Ap,Am,Ak,Ea,Ed,Ep,Eo,Ex,Fi,Ho,Ib,Hm,naA,seA];first|done|rfl)):p:=h
theorem i0 (h:p:=by((try simp only[D8,AV.ren,AV.give,D.un,Ef,D7,D6,Ap,Am,Ak,Ea,Ed,Ep,Eo,Ex,Fi,Ho,Ib,Hm,naA,seA]);(repeat'(first|exact trivial|exact Er _|refine A1 ?_ ?_|exact rfl|exact Cv rfl|exact Cz rfl|exact Cz Ah|omega|refine Cv ?_));first|done|fail)):p:=h
theorem RG (V:Tbs->Bool) (b:List UInt8) (g:b.length<=100000) (a:aC 63 [Zc (Mh b).1] (bv (V (Mh b).1))) (f:∃x r o,s4S b=⟨x::r,0,o⟩) (c:∃s',Mg true 3 (s9S b)=(none,s')):aC 16 [.d (By false b)] (tbR (M4 V b)):=by
 have z:=Fc b 0 16 Aa
 have j:lrA (Dn b 0 16)= .tup [.d (Gw (H1 b).l),erA (H1 b).c (H1 b).o]\/lrA (Dn b 0 16)= .tup [Ff,erA (H1 b).c (H1 b).o]/\(H1 b).l=[]:=by
  unfold lrA H1
  by_cases h:(Dn b 0 16).code≠0
  ·rw[Aj h,Aj h];exact .inr ⟨rfl,rfl⟩
  ·rw[Ai h,Ai h];exact .inl rfl
 have M:=W5 b
 unfold M4
 unfold Mh at a|-
 unfold s4S at f
 unfold s9S at c
 generalize H1 b=s0 at j M f c a|-
 have H:=gy b s0 M g
 generalize e:Nz b s0=R at H f c a|-
 obtain⟨v,s1⟩:=R
 have Q:=Zx M e
 clear e
 have E:=QX b s1 Q g
 simp only at f c a H E|-
 generalize e:E5 b [] M3 s1=R at E f c a|-
 obtain⟨se,s2⟩:=R
 have i2:=G8 Q e
 clear e
 have B:=BP b s2 i2 g
 simp only at f c a E B|-
 generalize e:E5 b .z Ju s2=R at B f c a|-
 obtain⟨sg,s3⟩:=R
 have P:=G8 i2 e
 clear e
 have t:=Yd b s3 P g
 simp only at f c a B t|-
 generalize e:E5 b [] nmO s3=R at t f c a|-
 obtain⟨is,s4⟩:=R
 have L:=G8 P e
 clear e
 simp only at f c a t|-
 have n:=Un b s4 L Aa
 rcases f with⟨x,r,o,rfl⟩
 ·obtain⟨x1,x2,x3⟩:=L x (Bd ..)
  have U:nxA b ⟨x::r,0,o⟩=(.tup [elA x,.d (By false (elO b x))],⟨r,0,o⟩):=rfl
  have n2:E5 b (.z,.z) Il ⟨x::r,0,o⟩=((Il (elO b x)).1,Src.fail b.length ⟨r,0,o⟩ (Il (elO b x)).2.1 (x.at'+(Il (elO b x)).2.2)):=rfl
  rw[U] at n
  rw[n2] at c a|-
  clear U n2
  simp only at n c a|-
  obtain⟨d,Y⟩:∃q,elO b x=q:=⟨_,rfl⟩
  have ld:d.length<=b.length:=by rw[<-Y];unfold elO;rw[Ec,Eh];omega
  rw[Y] at c a n|-
  have A:=iC d Aa
  have T:=iF d Aa
  generalize Il d=R at A T c a|-
  obtain⟨⟨fa,fb⟩,I,C⟩:=R
  rw[vpR] at A
  simp only at c a A T|-
  have hF:=Ns b ⟨r,0,o⟩ I (x.at'+C)
  have K:=Lx b.length I (x.at'+C) (s:=⟨r,0,o⟩) fun y hy=>L y (Be _ hy)
  generalize Src.fail b.length ⟨r,0,o⟩ I (x.at'+C)=s5 at hF K c a|-
  have N:=Yd b s5 K g
  generalize e:E5 b [] nmO s5=R at N c a|-
  obtain⟨su,Z⟩:=R
  have W:=G8 K e
  clear e
  have F:=RB b Z W g
  simp only at c a N F|-
  generalize e:E5 b .z O6 Z=R at F c a|-
  obtain⟨ky,s7⟩:=R
  have O:=G8 W e
  clear e
  have u:=IN b s7 1 O g
  simp only at c a F u|-
  generalize e:Kn 1 b s7=R at u c a|-
  obtain⟨⟨q1,l1,u1⟩,s8⟩:=R
  have i8:=T3 O e
  clear e
  have l:=IN b s8 2 i8 g
  simp only at c a u l|-
  generalize e:Kn 2 b s8=R at l c a|-
  obtain⟨⟨q2,l2,u2⟩,s9⟩:=R
  have i9:=T3 i8 e
  clear e
  have i:=QS b s9 true 3 i9 Aa
  simp only at c a l|-
  unfold Sb at a|-
  rcases c with⟨s',hE⟩
  rw[hE] at i a|-
  simp only at i a|-
  generalize hw:V _=w at a|-
  clear hw
  have X:=QT b s' w
  generalize P7 b w s'=S at X|-
  obtain⟨lz,k,oz⟩:=S
  simp only
  refine acY 121 [51,50,61,52,60,21,14,53,17,55,58] Tryz.func16 rfl rfl fun _ _ _=> ?_
  (all_goals(conv=>whnf))
  refine G6 ⟨[(0,.d (By false b)),(2,.ptr 2 0),(3,.ptr 3 0),(17,.ptr 900 0)],[(2,IP),(3,[iv 0,iv 0]),(900,K6 b s0)],[]⟩ ?_ ?_
  ·rcases j with j|⟨j,hl⟩
   ·rw[j] at z
    (repeat'((conv=>whnf);first|refine inY 886 15 [51,50,61,52,60,21,14,53,17,55,58,19,15] Tryz.func14 rfl rfl rfl rfl fun gh=> ?_|refine Al z wL ?_));(all_goals(conv=>whnf))
    all_goals exact J6
   ·rw[j] at z
    obtain⟨l0,c0,o0⟩:=s0
    obtain rfl:l0=[]:=hl
    (repeat'((conv=>whnf);first|refine inY 886 15 [51,50,61,52,60,21,14,53,17,55,58,19,15] Tryz.func14 rfl rfl rfl rfl fun gh=> ?_|refine Al z wL ?_));(all_goals(conv=>whnf))
    all_goals exact J6
  (repeat'((conv=>whnf);first|refine Ej ?_|refine Ee ?_|refine Cs (Eb rfl rfl (ltN rfl) rfl) ?_|refine pQ H ?_|refine pQ E ?_|refine pQ B ?_|refine pQ t ?_|refine pQ n ?_|refine Al A wL ?_|refine NInt.as (((x.at'+C:Nat):Int)) ((by rw[Bl _ Aa];omega)) ?_|refine pQ hF ?_|refine pQ N ?_|refine pQ F ?_|refine pQ u ?_|refine pQ l ?_|refine pQ i ?_|refine H0 a i0 ?_|refine pQ X ?_|refine zF ?_|(refine NBr.mk (fun m=> ?_) (fun m=> ?_)<;>(have J:=m;(try simp only[zS] at J)<;>first|(exfalso;omega)|skip))));(all_goals(conv=>whnf))
  all_goals(first|(rw[Aj (show k≠0 by rw[Av] at m;omega)];exact zE;done)|(rw[Ai (show¬k≠0 by rw[B1] at m;omega)];exact zE;done))
theorem dX (h:p:=by first|rfl|(simp only[D8,AV.ren,AV.give,D.un,Ef,D7,D6,Ap,Am,Ak,Ea,Ed,Ep,Eo,Ex,Fi,Ho,Ib,Hm,naA,seA];first|done|rfl)):p:=h
theorem RH (V:Tbs->Bool) (b:List UInt8) (i:b.length<=100000) (a:aC 63 [Zc (Mh b).1] (bv (V (Mh b).1))) (g:∃x r o,s4S b=⟨x::r,0,o⟩) (c:∃y s',Mg true 3 (s9S b)=(some y,s')):aC 16 [.d (By false b)] (tbR (M4 V b)):=by
 have C:=Fc b 0 16 Aa
 have l:lrA (Dn b 0 16)= .tup [.d (Gw (H1 b).l),erA (H1 b).c (H1 b).o]\/lrA (Dn b 0 16)= .tup [Ff,erA (H1 b).c (H1 b).o]/\(H1 b).l=[]:=by
  unfold lrA H1
  by_cases h:(Dn b 0 16).code≠0
  ·rw[Aj h,Aj h];exact .inr ⟨rfl,rfl⟩
  ·rw[Ai h,Ai h];exact .inl rfl
 have T:=W5 b
 unfold M4
 unfold Mh at a|-
 unfold s4S at g
 unfold s9S at c
 generalize H1 b=s0 at l T g c a|-
 have K:=gy b s0 T i
 generalize f:Nz b s0=R at K g c a|-
 obtain⟨v,s1⟩:=R
 have Z:=Zx T f
 clear f
 have I:=QX b s1 Z i
 simp only at g c a K I|-
 generalize f:E5 b [] M3 s1=R at I g c a|-
 obtain⟨se,s2⟩:=R
 have i2:=G8 Z f
 clear f
 have F:=BP b s2 i2 i
 simp only at g c a I F|-
 generalize f:E5 b .z Ju s2=R at F g c a|-
 obtain⟨sg,s3⟩:=R
 have Y:=G8 i2 f
 clear f
 have z:=Yd b s3 Y i
 simp only at g c a F z|-
 generalize f:E5 b [] nmO s3=R at z g c a|-
 obtain⟨is,s4⟩:=R
 have P:=G8 Y f
 clear f
 simp only at g c a z|-
 have u:=Un b s4 P Aa
 rcases g with⟨x,r,o,rfl⟩
 ·obtain⟨x1,x2,x3⟩:=P x (Bd ..)
  have n1:nxA b ⟨x::r,0,o⟩=(.tup [elA x,.d (By false (elO b x))],⟨r,0,o⟩):=rfl
  have n2:E5 b (.z,.z) Il ⟨x::r,0,o⟩=((Il (elO b x)).1,Src.fail b.length ⟨r,0,o⟩ (Il (elO b x)).2.1 (x.at'+(Il (elO b x)).2.2)):=rfl
  rw[n1] at u
  rw[n2] at c a|-
  clear n1 n2
  simp only at u c a|-
  obtain⟨d,hd⟩:∃q,elO b x=q:=⟨_,rfl⟩
  have ld:d.length<=b.length:=by rw[<-hd];unfold elO;rw[Ec,Eh];omega
  rw[hd] at c a u|-
  have E:=iC d Aa
  have hO:=iF d Aa
  generalize Il d=R at E hO c a|-
  obtain⟨⟨fa,fb⟩,M,H⟩:=R
  rw[vpR] at E
  simp only at c a E hO|-
  have hF:=Ns b ⟨r,0,o⟩ M (x.at'+H)
  have O:=Lx b.length M (x.at'+H) (s:=⟨r,0,o⟩) fun y Q=>P y (Be _ Q)
  generalize Src.fail b.length ⟨r,0,o⟩ M (x.at'+H)=s5 at hF O c a|-
  have U:=Yd b s5 O i
  generalize f:E5 b [] nmO s5=R at U c a|-
  obtain⟨su,s6⟩:=R
  have i6:=G8 O f
  clear f
  have J:=RB b s6 i6 i
  simp only at c a U J|-
  generalize f:E5 b .z O6 s6=R at J c a|-
  obtain⟨ky,s7⟩:=R
  have W:=G8 i6 f
  clear f
  have B:=IN b s7 1 W i
  simp only at c a J B|-
  generalize f:Kn 1 b s7=R at B c a|-
  obtain⟨⟨q1,l1,u1⟩,s8⟩:=R
  have i8:=T3 W f
  clear f
  have n:=IN b s8 2 i8 i
  simp only at c a B n|-
  generalize f:Kn 2 b s8=R at n c a|-
  obtain⟨⟨q2,l2,u2⟩,s9⟩:=R
  have X:=T3 i8 f
  clear f
  have j:=QS b s9 true 3 X Aa
  simp only at c a n|-
  unfold Sb at a|-
  rcases c with⟨y,s',hE⟩
  rw[hE] at j a|-
  obtain⟨-,Q⟩:=Nb X hE
  obtain⟨y1,y2,y3⟩:=Q y rfl
  simp only at j a|-
  obtain⟨e,A⟩:∃q,bod b y=q:=⟨_,rfl⟩
  have le:e.length<=b.length:=by rw[<-A];unfold bod;rw[Ec,Eh];omega
  rw[A] at a|-
  unfold bod at A
  have c:=dU e Aa
  have oX:=rD e Aa
  generalize Ub e=R at c oX a|-
  obtain⟨ex,cx,L⟩:=R
  rw[gw] at c
  simp only at c oX a|-
  have m:=Ns b s' cx (y.body+L)
  generalize Src.fail b.length s' cx (y.body+L)=s'' at m|-
  generalize hw:V _=w at a|-
  clear hw
  have hZ:=QT b s'' w
  generalize P7 b w s''=S at hZ|-
  obtain⟨lz,k,oz⟩:=S
  simp only
  refine acY 121 [51,50,61,52,60,21,14,53,17,55,58] Tryz.func16 rfl rfl fun _ _ _=> ?_
  (all_goals(conv=>whnf))
  refine G6 ⟨[(0,.d (By false b)),(2,.ptr 2 0),(3,.ptr 3 0),(17,.ptr 900 0)],[(2,IP),(3,[iv 0,iv 0]),(900,K6 b s0)],[]⟩ ?_ ?_
  ·rcases l with l|⟨l,hl⟩
   ·rw[l] at C
    (repeat'((conv=>whnf);first|refine inY 886 15 [51,50,61,52,60,21,14,53,17,55,58,19,15] Tryz.func14 rfl rfl rfl rfl fun gh=> ?_|refine Al C dX ?_));(all_goals(conv=>whnf))
    all_goals exact J6
   ·rw[l] at C
    obtain⟨l0,c0,o0⟩:=s0
    obtain rfl:l0=[]:=hl
    (repeat'((conv=>whnf);first|refine inY 886 15 [51,50,61,52,60,21,14,53,17,55,58,19,15] Tryz.func14 rfl rfl rfl rfl fun gh=> ?_|refine Al C dX ?_));(all_goals(conv=>whnf))
    all_goals exact J6
  (repeat'((conv=>whnf);first|refine Ej ?_|refine NLa.mk ⟨_,Hk rfl rfl (ltN rfl) rfl,?_⟩|refine Cs (Eb rfl rfl (ltN rfl) rfl) ?_|refine pQ K ?_|refine pQ I ?_|refine pQ F ?_|refine pQ z ?_|refine pQ u ?_|refine Al E dX ?_|refine NInt.as (((x.at'+H:Nat):Int)) ((by rw[Bl _ Aa];omega)) ?_|refine pQ hF ?_|refine pQ U ?_|refine pQ J ?_|refine pQ B ?_|refine pQ n ?_|refine pQ j ?_|(refine NSl.bytes y.body y.stop e A ?_)|refine Al c dX ?_|refine NInt.as (((y.body+L:Nat):Int)) ((by rw[Bl _ Aa];omega)) ?_|refine pQ m ?_|refine Al a dX ?_|refine pQ hZ ?_|refine zF ?_|(refine NBr.mk (fun t=> ?_) (fun t=> ?_)<;>(have N:=t;(try simp only[zS] at N)<;>first|(exfalso;omega)|skip))));(all_goals(conv=>whnf))
  all_goals(first|(rw[Aj (show k≠0 by rw[Av] at t;omega)];exact zE;done)|(rw[Ai (show¬k≠0 by rw[B1] at t;omega)];exact zE;done))
theorem rx (b:List UInt8):(s4S b).In b:=by
 have a:=W5 b
 unfold s4S
 generalize H1 b=s0 at a|-
 generalize f:Nz b s0=R
 obtain⟨v,h⟩:=R
 have d:=Zx a f
 simp only
 generalize i:E5 b [] M3 h=R
 obtain⟨l,g⟩:=R
 have e:=G8 d i
 simp only
 generalize c:E5 b .z Ju g=R
 obtain⟨j,k⟩:=R
 have m:=G8 e c
 grind [E5,nmO,G8]
theorem wM (V:Tbs->Bool) (b:List UInt8) (f:b.length<=100000) (d:aC 63 [Zc (Mh b).1] (bv (V (Mh b).1))):aC 16 [.d (By false b)] (tbR (M4 V b)):=by
 have j:=rx b
 have e:=RF V b f d
 have g:(∃x r o,s4S b=⟨x::r,0,o⟩)->aC 16 [.d (By false b)] (tbR (M4 V b)):=fun i=>by
  generalize a:Mg true 3 (s9S b)=R
  obtain⟨_|y,s'⟩:=R
  ·exact RG V b f d i ⟨s',a⟩
  ·exact RH V b f d i ⟨y,s',a⟩
 generalize s4S b=s4 at j e g
 obtain⟨l,c,o⟩:=s4
 by_cases h:c≠0
 ·exact e ⟨⟨l,c,o⟩,Aj h,Aj h,h,j⟩
 ·have k:c=0:=As.1 h
  subst k
  cases l with
  |nil=>exact e ⟨_,rfl,rfl,by unfold Src.fail;grind,fun x a=>by cases a⟩
  |cons x r=>exact g ⟨x,r,o,rfl⟩
theorem ia (h:p:=by first|rfl|(simp only[D8,AV.ren,AV.give,D.un,Ef,D7,D6,Ap,Am,Ak,Ea,Ed,Ep,Eo];first|done|rfl)):p:=h
theorem lm (b:List UInt8) (s:Src) (C:s.In b) (L:b.length<=6000) (V:Tbs->Bool) (E:∀d:List UInt8,d.length<=6000->aC 63 [Zc (Mh d).1] (bv (V (Mh d).1))):PC Tryz.prog 15 900 3000 [.ptr 900 0,.d (.fn 16 [])] (K6 b s) (fun r cs=>r=ll (E5 b .z (M4 V) s).1/\cs=K6 b (E5 b .z (M4 V) s).2):=by
 have a:=Un b s C Aa
 have y:=fun x c o=>Ns b ⟨x,0,s.o⟩ c o
 obtain⟨l,c,o⟩:=s
 unfold E5
 unfold nxA at a
 by_cases h:c≠0
 ·rw[Aj h] at a|-
  have g:((c:Int) !=0)=true:=by rw[Av];omega
  refine pcY 3000 38 [50] Tryz.func15 rfl rfl fun z _ _ _ u n t m i f=> ?_
  (repeat'((conv=>whnf);first|refine zP ?_|refine cY ?_|refine Cs (Eb rfl rfl (ltN rfl) rfl) ?_|refine pQ a ?_|exact z7))
 rw[Ai h] at a|-
 have F:c=0:=As.1 h
 subst F
 match l with
 |[]=>
  have e:Src.fail b.length ⟨[],0,o⟩ 1 b.length=⟨[],1,min b.length b.length⟩:=Aj ⟨rfl,Ae⟩
  simp only at a|-
  rw[e] at a|-
  refine pcY 3000 38 [50] Tryz.func15 rfl rfl fun z _ _ _ u n t m i f=> ?_
  (repeat'((conv=>whnf);first|refine Ej ?_|refine cY ?_|refine Cs (Eb rfl rfl (ltN rfl) rfl) ?_|refine pQ a ?_|exact z7))
 |x::r=>
  obtain⟨K,I,H⟩:=C x (Bd ..)
  simp only at a|-
  obtain⟨d,B⟩:∃q,elO b x=q:=⟨_,rfl⟩
  have J:d.length<=b.length:=by rw[<-B];unfold elO;rw[Ec,Eh];omega
  rw[B] at a|-
  have w:=wM V d Aa (E d Aa)
  have A:=RD V d Aa
  generalize M4 V d=R at w A|-
  obtain⟨v,k,j⟩:=R
  rw[tbR] at w
  simp only at A|-
  have y:=y r k (x.at'+j)
  refine pcY 3000 38 [50,51] Tryz.func15 rfl rfl fun z _ _ _ u n t m i f=> ?_
  (repeat'((conv=>whnf);first|refine Ee ?_|refine cY ?_|refine Cs (Eb rfl rfl (ltN rfl) rfl) ?_|refine pQ a ?_|refine Al w ia ?_|refine pQ y ?_|(with_reducible refine NInt.i64 ?_)|exact z7))
structure Tbs.mid (t:Tbs):Prop where
 ser:t.ser.length<=1000000
 sig:t.sig.sm
 iss:nmZ t.iss
 na:t.na.bd
 nb:t.nb.bd
 sub:nmZ t.sub
 key:t.key.sm
 il:t.il.length<=1000000
 iu:t.iu<=255
 sl:t.sl.length<=1000000
 su:t.su<=255
 en:t.ext.length<=1000000
 eo:∀x∈t.ext,x.oid.length<=4000000
theorem Fd (h:p:=by first|rfl|(simp only[D8,AV.ren,AV.give,D.un,Ef,D7,D6,Ap,Am,Ak,Ea,Ed,Ep,Eo,Ex,Fi,Ho,Ib,Hm,naA,seA];first|done|rfl)):p:=h
theorem Vg (t:Tbs) (h:t.mid) (B:Es Tryz.prog 117 [.d (Ph t.ext)] (fun r=>∃(u:D) (n:Int),r= .tup [.d u,iv n]/\decide (n<0)=t.ext.all dP)):aC 63 [Zc t] (bv (S4 t)):=by
 have d:=Mb t.ser (by have:=h.ser;omega)
 have e:=Rq t.sig h.sig
 have f:=lH t.iss h.iss
 have k:=lH t.sub h.sub
 have i:=T2 t.na h.na
 have j:=T2 t.nb h.nb
 have m:=dS t.key h.key
 have o:=BQ t.hi t.il t.iu t.ver h.il h.iu
 have v:=BQ t.hs t.sl t.su t.ver h.sl h.su
 have A:=QO t.ext h.en h.eo
 have V:=h.iss.l
 unfold S4
 clear h
 obtain⟨a,g,z,c,J,L,y,key,U,H,Q,O,M,I,ext⟩:=t
 simp only at*
 generalize T6 g=q1 at*
 generalize X8 z=q2 at*
 generalize nmV c=q3 at*
 generalize J.ok=q4 at*
 generalize L.ok=q5 at*
 generalize nmV y=q6 at*
 generalize qG key=q7 at*
 generalize qN U H Q a=q8 at*
 generalize qN O M I a=q9 at*
 have Y:decide ((a:Int)<0)=false:=Ao Aa
 by_cases E:2<a
 ·have R:decide ((a:Int)>2)=true:=Aq Aa
  rw[Aq E,B4,Aj rfl]
  refine acY 105 [117] Tryz.func63 rfl rfl fun _ _ _=> ?_
  (repeat'((conv=>whnf);first|refine zP ?_|refine zN ?_|refine Ej ?_|refine Ee ?_|exact zE))
 have R:decide ((a:Int)>2)=false:=Ao Aa
 rw[Ao E,C9]
 by_cases C:20<g.length
 ·have F:decide ((g.length:Int)>20)=true:=Aq Aa
  rw[Aq C,B4,Aj rfl]
  refine acY 105 [117] Tryz.func63 rfl rfl fun _ _ _=> ?_
  (repeat'((conv=>whnf);first|refine zP ?_|refine zN ?_|refine Ej ?_|refine Ee ?_|exact zE))
 have F:decide ((g.length:Int)>20)=false:=Ao Aa
 rw[Ao C,C9]
 cases q1
 ·rw[Aj Ab]
  refine acY 105 [117] Tryz.func63 rfl rfl fun _ _ _=> ?_
  (repeat'((conv=>whnf);first|refine zP ?_|refine zN ?_|refine Ej ?_|refine Ee ?_|refine Al d Fd ?_|exact zE))
 rw[Ai Ab]
 cases q2
 ·rw[Aj Ab]
  refine acY 105 [117] Tryz.func63 rfl rfl fun _ _ _=> ?_
  (repeat'((conv=>whnf);first|refine zP ?_|refine zN ?_|refine Ej ?_|refine Ee ?_|refine Al d Fd ?_|refine Al e Fd ?_|exact zE))
 rw[show(c==[])=decide ((c.length:Int)=0) by cases c<;>simp;omega]
 by_cases W:c.length=0
 ·have T:((c.length:Int)==0)=true:=by rw[A9];omega
  rw[Aq (show(c.length:Int)=0 by omega),Aj Ab]
  refine acY 105 [117] Tryz.func63 rfl rfl fun _ _ _=> ?_
  (repeat'((conv=>whnf);first|refine zP ?_|refine zN ?_|refine Ej ?_|refine Ee ?_|refine Al d Fd ?_|refine Al e Fd ?_|exact zE))
 have T:((c.length:Int)==0)=false:=by rw[An];omega
 rw[Ao (show¬(c.length:Int)=0 by omega)]
 cases q3
 ·rw[Aj Ab]
  refine acY 105 [117] Tryz.func63 rfl rfl fun _ _ _=> ?_
  (repeat'((conv=>whnf);first|refine zP ?_|refine zN ?_|refine Ej ?_|refine Ee ?_|refine Al d Fd ?_|refine Al e Fd ?_|refine Al f Fd ?_|exact zE))
 cases q4
 ·rw[Aj Ab]
  refine acY 105 [117] Tryz.func63 rfl rfl fun _ _ _=> ?_
  (repeat'((conv=>whnf);first|refine zP ?_|refine zN ?_|refine Ej ?_|refine Ee ?_|refine Al d Fd ?_|refine Al e Fd ?_|refine Al f Fd ?_|refine Al i rfl ?_|exact zE))
 cases q5
 ·rw[Aj Ab]
  refine acY 105 [117] Tryz.func63 rfl rfl fun _ _ _=> ?_
  (repeat'((conv=>whnf);first|refine zP ?_|refine zN ?_|refine Ej ?_|refine Ee ?_|refine Al d Fd ?_|refine Al e Fd ?_|refine Al f Fd ?_|refine Al i rfl ?_|refine Al j rfl ?_|exact zE))
 rw[Ai Ab]
 cases q6
 ·rw[Aj Ab]
  refine acY 105 [117] Tryz.func63 rfl rfl fun _ _ _=> ?_
  (repeat'((conv=>whnf);first|refine zP ?_|refine zN ?_|refine Ej ?_|refine Ee ?_|refine Al d Fd ?_|refine Al e Fd ?_|refine Al f Fd ?_|refine Al i rfl ?_|refine Al j rfl ?_|refine Al k Fd ?_|exact zE))
 cases q7
 ·rw[Aj Ab]
  refine acY 105 [117] Tryz.func63 rfl rfl fun _ _ _=> ?_
  (repeat'((conv=>whnf);first|refine zP ?_|refine zN ?_|refine Ej ?_|refine Ee ?_|refine Al d Fd ?_|refine Al e Fd ?_|refine Al f Fd ?_|refine Al i rfl ?_|refine Al j rfl ?_|refine Al k Fd ?_|refine Al m Fd ?_|exact zE))
 cases q8
 ·rw[Aj Ab]
  refine acY 105 [117] Tryz.func63 rfl rfl fun _ _ _=> ?_
  (repeat'((conv=>whnf);first|refine zP ?_|refine zN ?_|refine Ej ?_|refine Ee ?_|refine Al d Fd ?_|refine Al e Fd ?_|refine Al f Fd ?_|refine Al i rfl ?_|refine Al j rfl ?_|refine Al k Fd ?_|refine Al m Fd ?_|refine Al o Fd ?_|exact zE))
 cases q9
 ·rw[Aj Ab]
  refine acY 105 [117] Tryz.func63 rfl rfl fun _ _ _=> ?_
  (repeat'((conv=>whnf);first|refine zP ?_|refine zN ?_|refine Ej ?_|refine Ee ?_|refine Al d Fd ?_|refine Al e Fd ?_|refine Al f Fd ?_|refine Al i rfl ?_|refine Al j rfl ?_|refine Al k Fd ?_|refine Al m Fd ?_|refine Al o Fd ?_|refine Al v Fd ?_|exact zE))
 rw[Ai Ab]
 cases ext with
 |nil=>
  rw[Aj Ab]
  refine acY 105 [117] Tryz.func63 rfl rfl fun _ _ _=> ?_
  (repeat'((conv=>whnf);first|refine zP ?_|refine zN ?_|refine Ej ?_|refine Ee ?_|refine Al d Fd ?_|refine Al e Fd ?_|refine Al f Fd ?_|refine Al i rfl ?_|refine Al j rfl ?_|refine Al k Fd ?_|refine Al m Fd ?_|refine Al o Fd ?_|refine Al v Fd ?_|exact zE))
 |cons x r=>
  have X:(((x::r).length:Int)==0)=false:=by rw[An,D9];omega
  rw[Ai Ab]
  generalize (x::r)=l at*
  generalize l.all dP=q at*
  generalize eV l=p at*
  rw[show(a==2)=decide ((a:Int)=2) by rw[Bz,A9,A2];omega]
  by_cases w:(a:Int)=2
  ·have N:((a:Int)==2)=true:=by rw[A9];exact w
   rw[Aq w,Cd]
   refine acY 105 [117] Tryz.func63 rfl rfl fun _ _ _=> ?_
   (repeat'((conv=>whnf);first|refine zP ?_|refine zN ?_|refine Ej ?_|refine Ee ?_|refine Al d Fd ?_|refine Al e Fd ?_|refine Al f Fd ?_|refine Al i rfl ?_|refine Al j rfl ?_|refine Al k Fd ?_|refine Al m Fd ?_|refine Al o Fd ?_|refine Al v Fd ?_|refine Al A Fd ?_|((refine No B 700 rfl rfl (ltN rfl) rfl rfl rfl Fd ?_;rintro _ ⟨u,n,rfl,P⟩))|refine NBr.mk (fun K=> ?_) (fun K=> ?_)));(all_goals(conv=>whnf))
   all_goals(refine E0 ?_;(repeat'(first|refine A1 ?_ ?_|exact rfl));(all_goals(conv=>whnf)))
   all_goals simp_all
  ·have N:((a:Int)==2)=false:=by rw[An];exact w
   rw[Ao w,C4]
   refine acY 105 [117] Tryz.func63 rfl rfl fun _ _ _=> ?_
   (repeat'((conv=>whnf);first|refine zP ?_|refine zN ?_|refine Ej ?_|refine Ee ?_|refine Al d Fd ?_|refine Al e Fd ?_|refine Al f Fd ?_|refine Al i rfl ?_|refine Al j rfl ?_|refine Al k Fd ?_|refine Al m Fd ?_|refine Al o Fd ?_|refine Al v Fd ?_|((refine No B 700 rfl rfl (ltN rfl) rfl rfl rfl Fd ?_;rintro _ ⟨u,n,rfl,P⟩))|exact zE))
theorem ln (b:List UInt8) (c:b.length<=400000):nmZ (nmO b).1:=by
 unfold nmO
 cases a:(nmR b).1 with
 |none=>exact⟨Ab,Ab,Ab⟩
 |some n=>
  grind [kO,OL,nmE]
theorem ib (b:List UInt8) {t:Tm} {r:Nat×Nat} (h:tmO b=(some t,r)):t.bd:=by
 obtain⟨-,a,-,-⟩:=Zu h
 unfold Tm.sm at a
 exact⟨Aa,Aa⟩
theorem RI (b:List UInt8):(Il b).1.1.bd/\(Il b).1.2.bd:=by
 have z:Tm.z.bd:=⟨Nat.zero_le _,Nat.zero_le _⟩
 unfold Il paQ
 grind [paX,ib]
theorem RJ {c l:List UInt8} {u:Nat} (h:dcB c=some (l,u)):u<=255/\l.length<=c.length:=by
 obtain⟨-,a,rfl⟩:=Zv h
 grind [O5,D9]
theorem wN (b:List UInt8) (x:El):(bod b x).length<=b.length:=by grind [bod,Ec,Eh]
theorem lJ (b:List UInt8) (a:b.length<=100000):(Ju b).1.sm:=by
 have:=ZH b
 exact⟨Aa,Aa⟩
theorem ZI (b:List UInt8) (d:b.length<=100000):(O6 b).1.sm:=by
 have z:Ky.z.sm:=⟨⟨Nat.zero_le _,Nat.zero_le _⟩,Nat.zero_le _,Nat.zero_le _⟩
 have X:∀x y,(keX b x y).1.sm:=by
  intro x y
  unfold keX
  split
  ·exact z
  split
  ·exact z
  split
  ·exact z
  ·rename_i l u h
   obtain⟨a,c⟩:=RJ h
   have:=wN b y
   exact⟨lJ _ (by have:=Py b x;omega),by simp only;omega,a⟩
 grind [O6,keQ]
theorem BR (n:Nat) (b:List UInt8) (s:Src):(Kn n b s).1.2.1.length<=b.length/\(Kn n b s).1.2.2<=255:=by
 unfold Kn
 split
 ·grind
 ·rename_i x s' _
  split
  ·grind
  ·rename_i l u h
   obtain⟨a,c⟩:=RJ h
   grind [wN]
theorem BS (b:List UInt8) (c:b.length<=100000):∀(l:List El) (a:List Ext),(∀x∈a,x.oid.length<=4000000/\x.val.length<=b.length)->(S2 b l a).1.length<=a.length+l.length/\∀x∈(S2 b l a).1,x.oid.length<=4000000/\x.val.length<=b.length
 |[],a,h=>by
  unfold S2
  grind
 |y::r,a,h=>by
  have k:=lG (elO b y)
  have e:=Py b y
  have d:=BS b c r (a++[(Ua (elO b y)).1]) fun x f=>by
   grind
  unfold S2
  grind
theorem ZJ (b:List UInt8) (f:b.length<=100000) (s:Src):(Sb b s).1.length<=100000/\∀x∈(Sb b s).1,x.oid.length<=4000000/\x.val.length<=b.length:=by
 unfold Sb
 split
 ·grind
 ·rename_i y s' _
  have c:=wN b y
  have e:=F4 (bod b y) 0 16
  have d:=BS (bod b y) Aa (Dn (bod b y) 0 16).l [] fun x a=>by cases a
  show(Ub (bod b y)).1.length<=_/\∀x∈(Ub (bod b y)).1,_
  unfold Ub PP
  grind
theorem dY (b:List UInt8) (B:b.length<=100000):(Mh b).1.mid/\∀x∈(Mh b).1.ext,x.val.length<=b.length:=by
 have k:=Py b
 have i:=fun s=>Lw (fun l:List UInt8=>l.length<=1000000) (b:=b) (z:=[]) (p:=M3) (s:=s) (Nat.zero_le _) fun x=>by grind [rA,elO]
 have k3:=fun s=>Lw (fun a:Alg=>a.sm) (b:=b) (z:= .z) (p:=Ju) (s:=s) ⟨Nat.zero_le _,Nat.zero_le _⟩ fun x=>lJ _ (by have:=k x;omega)
 have o:=fun s=>Lw (fun a:List (List Att)=>nmZ a) (b:=b) (z:=[]) (p:=nmO) (s:=s) ⟨Ab,Ab,Ab⟩ fun x=>ln _ (by have:=k x;omega)
 have e:=fun s=>Lw (fun a:Tm×Tm=>a.1.bd/\a.2.bd) (b:=b) (z:=(.z,.z)) (p:=Il) (s:=s) ⟨⟨Nat.zero_le _,Nat.zero_le _⟩,⟨Nat.zero_le _,Nat.zero_le _⟩⟩ fun x=>RI _
 have g:=fun s=>Lw (fun a:Ky=>a.sm) (b:=b) (z:= .z) (p:=O6) (s:=s) ⟨⟨Nat.zero_le _,Nat.zero_le _⟩,Nat.zero_le _,Nat.zero_le _⟩ fun x=>ZI _ (by have:=k x;omega)
 have h:=BR 1 b
 have f:=BR 2 b
 have c:=ZJ b B
 unfold Mh
 generalize Nz b (H1 b)=R
 obtain⟨v,w⟩:=R
 simp only
 have i:=i w
 generalize E5 b [] M3 w=R at i|-
 obtain⟨Q,y⟩:=R
 simp only at i|-
 have k3:=k3 y
 generalize E5 b .z Ju y=R at k3|-
 obtain⟨K,q⟩:=R
 simp only at k3|-
 have d:=o q
 generalize E5 b [] nmO q=R at d|-
 obtain⟨O,t⟩:=R
 simp only at d|-
 have e:=e t
 generalize E5 b (.z,.z) Il t=R at e|-
 obtain⟨⟨F,J⟩,m⟩:=R
 simp only at e|-
 have k6:=o m
 generalize E5 b [] nmO m=R at k6|-
 obtain⟨H,n⟩:=R
 simp only at k6|-
 have g:=g n
 generalize E5 b .z O6 n=R at g|-
 obtain⟨P,r⟩:=R
 simp only at g|-
 have h:=h r
 generalize Kn 1 b r=R at h|-
 obtain⟨⟨C,M,N⟩,s8⟩:=R
 simp only at h|-
 have f:=f s8
 generalize Kn 2 b s8=R at f|-
 obtain⟨⟨L,E,I⟩,u⟩:=R
 simp only at f|-
 have c:=c u
 generalize Sb b u=R at c|-
 obtain⟨T,A⟩:=R
 simp only at c|-
 exact⟨⟨i,k3,d,e.1,e.2,k6,g,by simp only;omega,h.2,by simp only;omega,f.2,by simp only;omega,fun x j=>(c.2 x j).1⟩,fun x j=>(c.2 x j).2⟩
def ceC (q:Bool) (nm:List (List Att)->D) (ex:List Ext->D) (c:Cer):List AV:=iG q nm ex c.t++[sx c.a.oid,.d (By q c.a.par),.d (By q c.l),iv c.u]
def ceQ (c:Cer):AV:= .agg (ceC true gX Px c)
def ceR (r:Cer×Nat×Nat):AV:= .tup [ceQ r.1,erA r.2.1 r.2.2]
theorem RK (V:Tbs->Bool) (d:List UInt8) (c:d.length<=100000):(M4 V d).1.sig.sm:=by
 have a:=(dY d c).1
 unfold M4
 generalize Mh d=R at a|-
 obtain⟨t,s⟩:=R
 simp only at a|-
 generalize P7 d (V t) s=S
 obtain⟨l,k,o⟩:=S
 simp only
 split
 ·exact⟨Nat.zero_le _,Nat.zero_le _⟩
 ·exact a.sig
theorem wO (h:p:=by first|rfl|(simp only[D8,AV.ren,AV.give,D.un,Ef,D7,D6,Ap,Am,Ak,Ea,Ed,Ep,Eo,Ex,Fi,Ho,Ib,Hm,naA,seA];first|done|rfl)):p:=h
theorem wP (V:Tbs->Bool) (b:List UInt8) (M:b.length<=6000) (C:∀d:List UInt8,d.length<=6000->aC 63 [Zc (Mh d).1] (bv (V (Mh d).1))):aC 5 [.d (By false b)] (ceR (Rn V b)):=by
 have j:=Fc b 0 16 Aa
 have f:lrA (Dn b 0 16)= .tup [.d (Gw (H1 b).l),erA (H1 b).c (H1 b).o]\/lrA (Dn b 0 16)= .tup [Ff,erA (H1 b).c (H1 b).o]/\(H1 b).l=[]:=by
  unfold lrA H1
  by_cases h:(Dn b 0 16).code≠0
  ·rw[Aj h,Aj h];exact .inr ⟨rfl,rfl⟩
  ·rw[Ai h,Ai h];exact .inl rfl
 have q:=W5 b
 have y:=Py b
 have e:=fun s=>Lw (fun a:Alg=>a.sm) (b:=b) (z:= .z) (p:=Ju) (s:=s) ⟨Nat.zero_le _,Nat.zero_le _⟩ fun x=>lJ _ (by have:=y x;omega)
 have c:=fun s=>Lw (fun t:Tbs=>t.sig.sm) (b:=b) (z:= .z) (p:=M4 V) (s:=s) ⟨Nat.zero_le _,Nat.zero_le _⟩ fun x=>RK V _ (by have:=y x;omega)
 unfold Rn IA
 generalize H1 b=s0 at f q|-
 have m:=lm b s0 q M V C
 have c:=c s0
 generalize i:E5 b .z (M4 V) s0=R at m c|-
 obtain⟨t,A⟩:=R
 have B:=G8 q i
 clear i
 have v:=BP b A B Aa
 have e:=e A
 simp only at m c|-
 generalize i:E5 b .z Ju A=R at v e|-
 obtain⟨a,H⟩:=R
 have I:=G8 B i
 clear i
 have o:=lj b H I Aa
 simp only at v e|-
 generalize E5 b ([],0) Sa H=R at o|-
 obtain⟨⟨l,u⟩,F⟩:=R
 simp only at o|-
 have r:=Y2 a t.sig e c
 rw[show(a==t.sig)=decide (a=t.sig) from rfl] at r
 generalize decide (a=t.sig)=w at r|-
 have E:=QT b F w
 generalize P7 b w F=S at E|-
 obtain⟨P,k,O⟩:=S
 simp only
 clear e c y C
 by_cases n:k≠0
 all_goals
  first|(rw[Aj n];have g:((k:Int) !=0)=true:=by rw[Av];omega)|(rw[Ai n];have g:((k:Int) !=0)=false:=by rw[B1];omega)
  clear n
  refine acY 31 [51,50,21,14,15,17,19] Tryz.func5 rfl rfl fun _ _ _=> ?_
  (all_goals(conv=>whnf))
  refine G6 ⟨[(0,.d (By false b)),(2,.ptr 2 0),(3,.ptr 3 0),(8,.ptr 900 0)],[(2,ceC true gX Px .z),(3,[iv 0,iv 0]),(900,K6 b s0)],[]⟩ ?_ ?_
  ·rcases f with f|⟨f,K⟩
   ·rw[f] at j
    (repeat'((conv=>whnf);first|refine inY 886 15 [51,50,21,14,15,17,19] Tryz.func14 rfl rfl rfl rfl fun J=> ?_|refine Al j wO ?_));(all_goals(conv=>whnf))
    all_goals exact J6
   ·rw[f] at j
    obtain⟨L,N,Q⟩:=s0
    obtain rfl:L=[]:=K
    (repeat'((conv=>whnf);first|refine inY 886 15 [51,50,21,14,15,17,19] Tryz.func14 rfl rfl rfl rfl fun J=> ?_|refine Al j wO ?_));(all_goals(conv=>whnf))
    all_goals exact J6
  (repeat'((conv=>whnf);first|refine zP ?_|refine zN ?_|refine Ej ?_|refine Ee ?_|refine pQ m ?_|refine pQ v ?_|refine pQ o ?_|refine Al r wO ?_|refine pQ E ?_|refine zF ?_|exact zE))
end Go.Proofs.YtbedjionhmaafaaGreatDoor
