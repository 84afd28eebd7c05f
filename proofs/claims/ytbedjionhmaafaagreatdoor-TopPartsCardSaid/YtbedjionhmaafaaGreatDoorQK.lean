/- QK: PoP PoR. No condition. -/
import Derived.Test.YtbedjionhmaafaaGreatDoorQJ
set_option linter.all false
namespace Go.Proofs.YtbedjionhmaafaaGreatDoor
open Go.RowKit
set_option maxRecDepth 100000
set_option maxHeartbeats 16000000
def Pz (b:List UInt8):List El->List Po->Option (List Po)×Nat×Nat
 |[],a=>if(Um [] a&& !a.isEmpty)=true then(some a,0,0) else(none,6,0)
 |x::r,a=>match QF (elO b x) with
  |none=>(none,6,x.at')
  |some p=>Pz b r (a++[p])
def eD (b:List UInt8):Option (List Po)×Nat×Nat:=if(Dn b 0 16).code≠0 then(none,(Dn b 0 16).code,(Dn b 0 16).off) else if(Dn b 0 16).l.length<1\/2147483647<(Dn b 0 16).l.length then(none,6,0) else Pz b (Dn b 0 16).l []
theorem CC (b:List UInt8):∀(l:List El) (a:List Po),(Pz b l a).1=(match dN b l with
 |none=>none
 |some p=>if(Um [] (a++p)&& !(a++p).isEmpty)=true then some (a++p) else none)
 |[],a=>by
  unfold Pz dN
  simp only[Am]
  split<;>rfl
 |x::r,a=>by
  have c:=CC b r
  unfold Pz dN
  cases QF (elO b x) with
  |none=>rfl
  |some p=>
   simp only
   rw[c]
   cases dN b r with
   |none=>rfl
   |some q=>simp only[Ch,Bt,Ak,Ap]
theorem CD (b:List UInt8):∀(l:List El) (a:List Po),(Pz b l a).1=none->(Pz b l a).2.1≠0
 |[],a=>by
  unfold Pz
  split
  ·intro h;cases h
  ·intro _;simp
 |x::r,a=>by
  have c:=CD b r
  unfold Pz
  cases QF (elO b x) with
  |none=>intro _;simp
  |some p=>exact c _
theorem ZU (b:List UInt8):(eD b).1=hX b/\((eD b).1=none->(eD b).2.1≠0):=by
 unfold eD hX X9
 by_cases a:(Dn b 0 16).code≠0
 ·rw[Aj a,Aj a];exact⟨rfl,fun _=>a⟩
 rw[Ai a,Ai a]
 by_cases c:(Dn b 0 16).l.length<1\/2147483647<(Dn b 0 16).l.length
 ·rw[Aj c,Aj c];exact⟨rfl,fun _=>by simp⟩
 rw[Ai c,Ai c]
 refine⟨?_,CD b _ _⟩
 rw[CC]
 simp only
 cases dN b (Dn b 0 16).l<;>rfl
def pr:Option (List Po)×Nat×Nat->AV
 |(some p,_)=> .tup [.d (RS p),erA 0 0]
 |(none,c,o)=> .tup [Ff,erA c o]
theorem S6 (b:List UInt8) (x:El):(elO b x).length<=b.length:=by unfold elO;rw[Ec,Eh];omega
theorem W6 (b:List UInt8):(Kb b).1.length<=21*(b.length+1):=by
 have a:=jX (bod b (Em b).x)
 have c:(bod b (Em b).x).length<=b.length:=by unfold bod;rw[Ec,Eh];omega
 unfold Kb
 split
 ·exact Nat.zero_le _
 ·simp only;omega
theorem ZV {b:List UInt8} {q:Qu} (h:QE b=some q):q.1.length<=21*(b.length+1)/\q.2.length<=b.length:=by
 unfold QE at h
 split at h
 ·rename_i x y _
  split at h
  ·cases h
   have a:=W6 (elO b x)
   have c:=S6 b x
   exact⟨by simp only;omega,S6 b y⟩
  ·cases h
 ·cases h
structure poZ (n:Nat) (p:Po):Prop where
 o:p.1.length<=21*(n+1)
 l:p.2.length<=n
 q:∀q∈p.2,q.1.length<=21*(n+1)/\q.2.length<=n
theorem Ie {p:Prop} (h:p:=by first|rfl|(simp only[D8,AV.ren,AV.give,D.un,Ef,D7,D6,Ap,Am,Ak,Ea,Ed,Ep,Eo,lN,rH,RT,BZ,BY,CA,Fy];first|done|rfl)):p:=h
set_option maxHeartbeats 40000000 in
theorem SE (b:List UInt8) (hb:b.length<=6000):aC 235 [.d (By false b)] (pr (eD b)):=by
 have hP:=Fc b 0 16 Aa
 have A:=fun x=>Ez (b:=b) (c:=0) (n:=16) (x:=x)
 have E:=F4 b 0 16
 unfold eD
 generalize Dn b 0 16=R at hP A E|-
 obtain⟨l,c,o⟩:=R
 simp only at A E|-
 have L:=Iz 0
 by_cases h1:c≠0
 ·rw[lrA,Aj h1] at hP
  rw[Aj h1]
  have gc:((c:Int) !=0)=true:=by rw[Av];omega
  refine acY 19 [301,302,303,305,306,367,304] Tryz.func235 rfl rfl fun _ _ _=> ?_
  (repeat'((conv=>whnf);first|refine zP ?_|refine inY 100 55 [301,302,303,305,306,367,304] Tryz.func301 rfl rfl rfl rfl fun B=> ?_|refine Al hP Ie ?_|refine zF ?_|exact zE))
 rw[lrA,Ai h1] at hP
 rw[Ai h1]
 by_cases h2:l.length<1
 ·rw[Aj (.inl h2)]
  have g:decide ((l.length:Int)<1)=true:=Aq Aa
  refine acY 19 [301,302,303,305,306,367,304] Tryz.func235 rfl rfl fun _ _ _=> ?_
  (repeat'((conv=>whnf);first|refine zP ?_|refine zN ?_|refine Ej ?_|refine Ee ?_|refine inY 100 55 [301,302,303,305,306,367,304] Tryz.func301 rfl rfl rfl rfl fun B=> ?_|refine Al hP Ie ?_|refine Al L rfl ?_|refine zF ?_|exact zE))
 rw[Ai Aa]
 have ga:decide ((l.length:Int)<1)=false:=Ao Aa
 have gb:decide ((l.length:Int)>2147483647)=false:=Ao Aa
 have hln:l.length<=6000:=Aa
 generalize hR:Pz b l []=R
 refine acY 19 [301,302,303,305,306,367,304] Tryz.func235 rfl rfl fun _ _ _=> ?_
 (repeat'((conv=>whnf);first|refine zP ?_|refine zN ?_|refine Ej ?_|refine Ee ?_|refine inY 100 55 [301,302,303,305,306,367,304] Tryz.func301 rfl rfl rfl rfl fun B=> ?_|refine Al hP Ie ?_));(all_goals(conv=>whnf))
 clear hP
 refine F2 [.b 4 0 1000 2 494] (fun z:Nat×List Po=>z.1<=l.length/\z.2.length<=z.1/\(∀p∈z.2,poZ 6000 p)/\Pz b (l.drop z.1) z.2=R) (fun z=>l.length-z.1) (fun z=>⟨[(0,.d (By false b)),(3,.cl 302 [] [.ptr 4 0]),(8,.ptr 108 0),(33,.d (Gw l)),(34,iv l.length),(35,iv z.1),(1000003,.ptr 3 0),(1000004,.ptr 4 0)],[(3,[iv 0,iv 0]),(4,[Fy 1000 2 494 poO z.2]),(108,[iv 0,iv 0])],[(1000,(z.2.length,2,494))]⟩) (0,[]) ⟨Ab,Ab,fun p I=>(by cases I),hR⟩ leQ ?_
 rintro⟨i,a⟩ ⟨hi,hal,U,f⟩
 simp only at hi hal U f
 by_cases hil:i<l.length
 rotate_left
 ·have gi:decide ((i:Int)<(l.length:Int))=false:=Ao Aa
  rw[Bp Aa,Pz] at f
  have hV:=wR a ⟨Aa,fun p I=>by have:=U p I;exact⟨by have:=this.o;omega,by have:=this.l;omega⟩,fun p I q M=>by have:=(U p I).q q M;omega⟩
  generalize (Um [] a&& !a.isEmpty)=v at hV f
  cases v
  ·rw[Ai Ab] at f
   subst f
   (repeat'((conv=>whnf);first|refine zP ?_|refine zN ?_|refine Ej ?_|refine Ee ?_|refine Al hV Ie ?_|refine Al L rfl ?_|exact zE))
  ·rw[Aj rfl] at f
   subst f
   (repeat'((conv=>whnf);first|refine zP ?_|refine zN ?_|refine Ej ?_|refine Ee ?_|refine Al hV Ie ?_|exact zE))
 have gi:decide ((i:Int)<(l.length:Int))=true:=Aq Aa
 obtain⟨x,hg⟩:∃p,l[i]?=some p:=⟨_,Ev hil⟩
 have hdr:l.drop i=x::l.drop (i+1):=by
  obtain⟨k1,k2⟩:=Ew.1 hg
  rw[<-k2];exact A5 k1
 obtain⟨x1,x2,x3⟩:=A x (F9 hg)
 rw[hdr,Pz] at f
 clear A E hR ga gb h2
 have K:=Iz x.at'
 obtain⟨d,hd⟩:∃q,elO b x=q:=⟨_,rfl⟩
 have ld:d.length<=b.length:=by rw[<-hd];unfold elO;rw[Ec,Eh];omega
 rw[hd] at f
 unfold elO at hd
 have V:=Fc d 0 16 Aa
 have A:=fun x=>Ez (b:=d) (c:=0) (n:=16) (x:=x)
 have E:=F4 d 0 16
 unfold QF X9 at f
 generalize Dn d 0 16=R2 at V A E f
 obtain⟨m,c2,o2⟩:=R2
 simp only at A E f
 by_cases k1:c2≠0
 ·rw[lrA,Aj k1] at V
  rw[Aj k1] at f
  simp only at f
  subst f
  have gc:((c2:Int) !=0)=true:=by rw[Av];omega
  have gd:((c2:Int)==0)=false:=by rw[An];omega
  (repeat'((conv=>whnf);first|refine zP ?_|refine zN ?_|refine Ej ?_|refine Ee ?_|refine zG ?_|refine Jn 895 18 [301,302,303,305,306,367,304] Tryz.func302 rfl rfl rfl rfl rfl fun B=> ?_|refine inY 300 55 [301,302,303,305,306,367,304] Tryz.func301 rfl rfl rfl rfl fun B=> ?_|refine NIdx.tab (fun _=>rfl) hg ?_|(refine NSl.bytes x.at' x.stop d hd ?_)|refine Al V Ie ?_|refine Al K rfl ?_|(refine L7 (a.length+1) _ ?_)|(refine NBr.mk (fun hc=> ?_) (fun hc=> ?_)<;>(have hcP:=hc;(try simp only[zS] at hcP)<;>first|(exfalso;omega)|skip))|exact zE))
 rw[lrA,Ai k1] at V
 rw[Ai k1] at f
 match m with
 |[]=>
  rw[Aj Ab] at f
  simp only at f
  subst f
  (repeat'((conv=>whnf);first|refine zP ?_|refine zN ?_|refine Ej ?_|refine Ee ?_|refine zG ?_|refine Jn 895 18 [301,302,303,305,306,367,304] Tryz.func302 rfl rfl rfl rfl rfl fun B=> ?_|refine inY 300 55 [301,302,303,305,306,367,304] Tryz.func301 rfl rfl rfl rfl fun B=> ?_|refine NIdx.tab (fun _=>rfl) hg ?_|(refine NSl.bytes x.at' x.stop d hd ?_)|refine Al V Ie ?_|refine Al L rfl ?_|refine Al K rfl ?_|(refine L7 (a.length+1) _ ?_)|exact zE))
 |u::v::w::ms=>
  rw[Aj Ab] at f
  simp only at f
  subst f
  have g1:decide ((((u::v::w::ms).length:Nat):Int)<1)=false:=Ao (by rw[D9];omega)
  have g2:decide ((((u::v::w::ms).length:Nat):Int)>2)=true:=Aq (by rw[D9,D9,D9];omega)
  (repeat'((conv=>whnf);first|refine zP ?_|refine zN ?_|refine Ej ?_|refine Ee ?_|refine zG ?_|refine Jn 895 18 [301,302,303,305,306,367,304] Tryz.func302 rfl rfl rfl rfl rfl fun B=> ?_|refine inY 300 55 [301,302,303,305,306,367,304] Tryz.func301 rfl rfl rfl rfl fun B=> ?_|refine NIdx.tab (fun _=>rfl) hg ?_|(refine NSl.bytes x.at' x.stop d hd ?_)|refine Al V Ie ?_|refine Al L rfl ?_|refine Al K rfl ?_|(refine L7 (a.length+1) _ ?_)|exact zE))
 |[u]=>
  rw[Ai Ab] at f
  simp only at f
  obtain⟨u1,u2,u3⟩:=A u Ab
  have gu:([u]:List El)[0]?=some u:=rfl
  obtain⟨p,I⟩:∃q,elO d u=q:=⟨_,rfl⟩
  have lp:p.length<=d.length:=by rw[<-I];unfold elO;rw[Ec,Eh];omega
  have hI:=SB p Aa
  have sz:=W6 p
  have hBu:=Iz u.at'
  rw[I] at f
  unfold elO at I
  generalize Kb p=Q at hI f sz
  obtain⟨s,k⟩:=Q
  simp only at hI f sz
  cases k
  ·rw[Ai Ab] at f
   simp only at f
   subst f
   (repeat'((conv=>whnf);first|refine zP ?_|refine zN ?_|refine Ej ?_|refine Ee ?_|refine zG ?_|refine Jn 895 18 [301,302,303,305,306,367,304] Tryz.func302 rfl rfl rfl rfl rfl fun B=> ?_|refine inY 300 55 [301,302,303,305,306,367,304] Tryz.func301 rfl rfl rfl rfl fun B=> ?_|refine Jn 400 16 [301,302,303,305,306,367,304] Tryz.func303 rfl rfl rfl rfl rfl fun B=> ?_|refine NIdx.tab (fun _=>rfl) hg ?_|refine NIdx.tab (fun _=>rfl) gu ?_|(refine NSl.bytes x.at' x.stop d hd ?_)|(refine NSl.bytes u.at' u.stop p I ?_)|(refine Hv 2 ?_)|refine Al V Ie ?_|refine pQ hI ?_|refine Al K rfl ?_|refine Al hBu rfl ?_|refine E4 poO (((s,[]):Po)) ?_|exact zE))
  ·rw[Aj rfl] at f
   simp only at f
   (repeat'((conv=>whnf);first|refine zP ?_|refine zN ?_|refine Ej ?_|refine Ee ?_|refine Jn 895 18 [301,302,303,305,306,367,304] Tryz.func302 rfl rfl rfl rfl rfl fun B=> ?_|refine inY 300 55 [301,302,303,305,306,367,304] Tryz.func301 rfl rfl rfl rfl fun B=> ?_|refine Jn 400 16 [301,302,303,305,306,367,304] Tryz.func303 rfl rfl rfl rfl rfl fun B=> ?_|refine NIdx.tab (fun _=>rfl) hg ?_|refine NIdx.tab (fun _=>rfl) gu ?_|(refine NSl.bytes x.at' x.stop d hd ?_)|(refine NSl.bytes u.at' u.stop p I ?_)|(refine Hv 2 ?_)|(refine Cv ?_)|refine Al V Ie ?_|refine pQ hI ?_|refine E4 poO (((s,[]):Po)) ?_|(with_reducible refine NInt.i64 ?_)));(all_goals(conv=>whnf))
   refine⟨(i+1,a++[(s,[])]),⟨hil,by simp only[En,D9,Ax];omega,fun q M=> ?_,f⟩,by simp only;omega,?_⟩
   ·rcases Cm.1 M with M|M
    ·exact U q M
    ·obtain rfl:=Bh.1 M
     exact⟨by simp only;omega,Ab,fun q M=>by cases M⟩
   ·exact leQ
 |[u,v]=>
  rw[Ai Ab] at f
  simp only at f
  obtain⟨u1,u2,u3⟩:=A u Ab
  obtain⟨v1,v2,v3⟩:=A v Ab
  have gu:([u,v]:List El)[0]?=some u:=rfl
  have gv:([u,v]:List El)[1]?=some v:=rfl
  obtain⟨p,I⟩:∃q,elO d u=q:=⟨_,rfl⟩
  obtain⟨q,M⟩:∃q,elO d v=q:=⟨_,rfl⟩
  have lp:p.length<=d.length:=by rw[<-I];unfold elO;rw[Ec,Eh];omega
  have lq:q.length<=d.length:=by rw[<-M];unfold elO;rw[Ec,Eh];omega
  have hI:=SA p Aa
  have sz:=W6 p
  have hBu:=Iz u.at'
  have hBv:=Iz v.at'
  rw[I,M] at f
  unfold elO at I M
  generalize Kb p=Q at hI f sz
  obtain⟨s,k⟩:=Q
  simp only at hI f sz
  clear A E
  cases k
  ·rw[Ai Ab] at f
   simp only at f
   subst f
   (repeat'((conv=>whnf);first|refine zP ?_|refine zN ?_|refine Ej ?_|refine Ee ?_|refine zG ?_|refine Jn 895 18 [301,302,303,305,306,367,304] Tryz.func302 rfl rfl rfl rfl rfl fun B=> ?_|refine inY 300 55 [301,302,303,305,306,367,304] Tryz.func301 rfl rfl rfl rfl fun B=> ?_|refine Jn 400 16 [301,302,303,305,306,367,304] Tryz.func303 rfl rfl rfl rfl rfl fun B=> ?_|refine NIdx.tab (fun _=>rfl) hg ?_|refine NIdx.tab (fun _=>rfl) gu ?_|(refine NSl.bytes x.at' x.stop d hd ?_)|(refine NSl.bytes u.at' u.stop p I ?_)|(refine Hv 2 ?_)|refine Al V Ie ?_|refine pQ hI ?_|refine Al K rfl ?_|refine Al hBu rfl ?_|(refine L7 (a.length+1) _ ?_)|exact zE))
  rw[Aj rfl] at f
  have T:=Fc q 0 16 Aa
  have A:=fun x=>Ez (b:=q) (c:=0) (n:=16) (x:=x)
  have E:=F4 q 0 16
  generalize Dn q 0 16=R3 at T A E f
  obtain⟨w,c3,o3⟩:=R3
  simp only at A E f
  (repeat'((conv=>whnf);first|refine zP ?_|refine zN ?_|refine Ej ?_|refine Ee ?_|refine Jn 895 18 [301,302,303,305,306,367,304] Tryz.func302 rfl rfl rfl rfl rfl fun B=> ?_|refine inY 300 55 [301,302,303,305,306,367,304] Tryz.func301 rfl rfl rfl rfl fun B=> ?_|refine NIdx.tab (fun _=>rfl) hg ?_|(refine NSl.bytes x.at' x.stop d hd ?_)|refine Al V Ie ?_));(all_goals(conv=>whnf))
  clear V
  refine Fh (fun z:Nat×List Qu=>z.1<=2/\(z.1=2->z.2.length<=6000/\(∀y∈z.2,y.1.length<=21*(6000+1)/\y.2.length<=6000)/\Pz b (l.drop (i+1)) (a++[(s,z.2)])=R)) (fun z=>2-z.1) (fun z:Nat×List Qu=>match z.1 with|0=>⟨[(0,.d (By false d)),(3,.cl 303 [] [.ptr 901 0]),(8,.ptr 308 0),(33,.d (Gw [u,v])),(34,iv ([u,v]:List El).length),(35,iv 0),(1000002,.ptr 4 0),(1000006,.ptr 901 0),(2000000,.d (By false b)),(2000003,.cl 302 [] [.ptr 4 0]),(2000008,.ptr 108 0),(2000033,.d (Gw l)),(2000034,iv l.length),(2000035,iv i),(2000012,.ptr 112 0),(3000003,.ptr 3 0),(3000004,.ptr 4 0)],[(3,[iv 0,iv 0]),(4,[Fy 1000 2 494 poO a]),(108,[iv 0,iv 0]),(112,[iv x.c,iv x.n,bv x.k,iv x.at',iv x.body,iv x.stop]),(901,[sx [],Ff]),(308,[iv 0,iv 0])],[(1000,(a.length,2,494))]⟩|1=>⟨[(0,.d (By false d)),(3,.cl 303 [] [.ptr 901 0]),(8,.ptr 308 0),(33,.d (Gw [u,v])),(34,iv ([u,v]:List El).length),(35,iv 1),(1000002,.ptr 4 0),(1000006,.ptr 901 0),(2000000,.d (By false b)),(2000003,.cl 302 [] [.ptr 4 0]),(2000008,.ptr 108 0),(2000033,.d (Gw l)),(2000034,iv l.length),(2000035,iv i),(2000012,.ptr 112 0),(3000003,.ptr 3 0),(3000004,.ptr 4 0)],[(3,[iv 0,iv 0]),(4,[Fy 1000 2 494 poO a]),(108,[iv 0,iv 0]),(112,[iv x.c,iv x.n,bv x.k,iv x.at',iv x.body,iv x.stop]),(901,[sx s,Ff]),(308,[iv 0,iv 0])],[(1000,(a.length,2,494))]⟩|_=>⟨[(0,.d (By false d)),(3,.cl 303 [] [.ptr 901 0]),(8,.ptr 308 0),(33,.d (Gw [u,v])),(34,iv ([u,v]:List El).length),(35,iv 2),(1000002,.ptr 4 0),(1000006,.ptr 901 0),(2000000,.d (By false b)),(2000003,.cl 302 [] [.ptr 4 0]),(2000008,.ptr 108 0),(2000033,.d (Gw l)),(2000034,iv l.length),(2000035,iv i),(2000012,.ptr 112 0),(3000003,.ptr 3 0),(3000004,.ptr 4 0)],[(3,[iv 0,iv 0]),(4,[Fy 1000 2 494 poO a]),(108,[iv 0,iv 0]),(112,[iv x.c,iv x.n,bv x.k,iv x.at',iv x.body,iv x.stop]),(901,[sx s,Fy 3000 2 496 quO z.2]),(308,[iv 0,iv 0])],[(1000,(a.length,2,494)),(3000,(z.2.length,2,496))]⟩) (0,[]) ⟨Ab,fun h=>by cases h⟩ leQ ?_
  rintro⟨n,N⟩ ⟨hn,hfin⟩
  simp only at hn hfin
  match n,hn with
  |0,_=>
   (repeat'((conv=>whnf);first|refine Ej ?_|refine Ee ?_|refine Jn 400 16 [301,302,303,305,306,367,304] Tryz.func303 rfl rfl rfl rfl rfl fun B=> ?_|refine NIdx.tab (fun _=>rfl) gu ?_|(refine NSl.bytes u.at' u.stop p I ?_)|refine pQ hI ?_|(with_reducible refine NInt.i64 ?_)));(all_goals(conv=>whnf))
   refine⟨(1,[]),⟨Ab,fun h=>by cases h⟩,Ab,?_⟩
   exact leQ
  |2,_=>
   obtain⟨P,hf2,hf3⟩:=hfin rfl
   (repeat'((conv=>whnf);first|refine Ee ?_|refine E4 poO ((s,N):Po) ?_|(with_reducible refine NInt.i64 ?_)));(all_goals(conv=>whnf))
   refine⟨(i+1,a++[(s,N)]),⟨hil,by simp only[En,D9,Ax];omega,fun y X=> ?_,hf3⟩,by simp only;omega,?_⟩
   ·rcases Cm.1 X with X|X
    ·exact U y X
    ·obtain rfl:=Bh.1 X
     exact⟨by simp only;omega,by simp only;omega,hf2⟩
   ·exact leQ
  |1,_=>
  clear hfin
  by_cases k3:c3≠0
  ·rw[lrA,Aj k3] at T
   rw[Aj k3] at f
   simp only at f
   subst f
   have gc:((c3:Int) !=0)=true:=by rw[Av];omega
   have gd:((c3:Int)==0)=false:=by rw[An];omega
   (repeat'((conv=>whnf);first|refine zP ?_|refine zN ?_|refine Ej ?_|refine Ee ?_|refine zG ?_|refine Jn 400 16 [301,302,303,305,306,367,304] Tryz.func303 rfl rfl rfl rfl rfl fun B=> ?_|refine inY 500 55 [301,302,303,305,306,367,304] Tryz.func301 rfl rfl rfl rfl fun B=> ?_|refine NIdx.tab (fun _=>rfl) gv ?_|(refine NSl.bytes v.at' v.stop q M ?_)|refine Al T Ie ?_|refine Al K rfl ?_|refine Al hBv rfl ?_|(refine L7 (a.length+1) _ ?_)|(refine NBr.mk (fun hc=> ?_) (fun hc=> ?_)<;>(have hcP:=hc;(try simp only[zS] at hcP)<;>first|(exfalso;omega)|skip))|exact zE))
  rw[lrA,Ai k3] at T
  rw[Ai k3] at f
  by_cases k4:w.length<1
  ·rw[Aj (.inl k4)] at f
   simp only at f
   subst f
   have g:decide ((w.length:Int)<1)=true:=Aq Aa
   (repeat'((conv=>whnf);first|refine zP ?_|refine zN ?_|refine Ej ?_|refine Ee ?_|refine zG ?_|refine Jn 400 16 [301,302,303,305,306,367,304] Tryz.func303 rfl rfl rfl rfl rfl fun B=> ?_|refine inY 500 55 [301,302,303,305,306,367,304] Tryz.func301 rfl rfl rfl rfl fun B=> ?_|refine NIdx.tab (fun _=>rfl) gv ?_|(refine NSl.bytes v.at' v.stop q M ?_)|refine Al T Ie ?_|refine Al L rfl ?_|refine Al K rfl ?_|refine Al hBv rfl ?_|(refine L7 (a.length+1) _ ?_)|exact zE))
  rw[Ai Aa] at f
  simp only at f
  have ga:decide ((w.length:Int)<1)=false:=Ao Aa
  have gb:decide ((w.length:Int)>2147483647)=false:=Ao Aa
  generalize hW:dM q w=W at f
  have hwn:w.length<=6000:=Aa
  (repeat'((conv=>whnf);first|refine zP ?_|refine zN ?_|refine Ej ?_|refine Ee ?_|refine Jn 400 16 [301,302,303,305,306,367,304] Tryz.func303 rfl rfl rfl rfl rfl fun B=> ?_|refine inY 500 55 [301,302,303,305,306,367,304] Tryz.func301 rfl rfl rfl rfl fun B=> ?_|refine NIdx.tab (fun _=>rfl) gv ?_|(refine NSl.bytes v.at' v.stop q M ?_)|refine Al T Ie ?_));(all_goals(conv=>whnf))
  clear T hI I hd
  refine F2 [.b 901 1 3000 2 496] (fun z:Nat×List Qu=>z.1<=w.length/\z.2.length<=z.1/\(∀y∈z.2,y.1.length<=21*(6000+1)/\y.2.length<=6000)/\(dM q (w.drop z.1)).map (z.2++ ·)=W) (fun z=>w.length-z.1) (fun z:Nat×List Qu=>⟨[(0,.d (By false q)),(3,.cl 305 [] [.ptr 901 0]),(8,.ptr 508 0),(33,.d (Gw w)),(34,iv w.length),(35,iv z.1),(2000000,.d (By false d)),(2000003,.cl 303 [] [.ptr 901 0]),(2000008,.ptr 308 0),(2000033,.d (Gw [u,v])),(2000034,iv ([u,v]:List El).length),(2000035,iv 1),(2000012,.ptr 312 0),(3000002,.ptr 4 0),(3000006,.ptr 901 0),(4000000,.d (By false b)),(4000003,.cl 302 [] [.ptr 4 0]),(4000008,.ptr 108 0),(4000033,.d (Gw l)),(4000034,iv l.length),(4000035,iv i),(4000012,.ptr 112 0),(5000003,.ptr 3 0),(5000004,.ptr 4 0)],[(3,[iv 0,iv 0]),(4,[Fy 1000 2 494 poO a]),(108,[iv 0,iv 0]),(112,[iv x.c,iv x.n,bv x.k,iv x.at',iv x.body,iv x.stop]),(308,[iv 0,iv 0]),(312,[iv v.c,iv v.n,bv v.k,iv v.at',iv v.body,iv v.stop]),(508,[iv 0,iv 0]),(901,[sx s,Fy 3000 2 496 quO z.2])],[(1000,(a.length,2,494)),(3000,(z.2.length,2,496))]⟩) (0,[]) ⟨Ab,Ab,fun p I=>(by cases I),by rw[<-hW];simp⟩ leQ ?_
  rintro⟨j,N⟩ ⟨hj,hql,hqz,O⟩
  simp only at hj hql hqz O
  by_cases hjl:j<w.length
  rotate_left
  ·have gj:decide ((j:Int)<(w.length:Int))=false:=Ao Aa
   rw[Bp Aa,dM] at O
   simp only[Ch,Am] at O
   subst O
   simp only[Ch] at f
   (repeat'((conv=>whnf);first|refine zP ?_|refine zN ?_|refine Ej ?_|refine Ee ?_|(with_reducible refine NInt.i64 ?_)));(all_goals(conv=>whnf))
   refine⟨(2,N),⟨Ab,fun _=>⟨by simp only;omega,hqz,f⟩⟩,Ab,?_⟩
   exact leQ
  have gj:decide ((j:Int)<(w.length:Int))=true:=Aq Aa
  obtain⟨t,hgt⟩:∃p,w[j]?=some p:=⟨_,Ev hjl⟩
  have hdt:w.drop j=t::w.drop (j+1):=by
   obtain⟨k1,k2⟩:=Ew.1 hgt
   rw[<-k2];exact A5 k1
  obtain⟨t1,t2,t3⟩:=A t (F9 hgt)
  obtain⟨e,T⟩:∃y,elO q t=y:=⟨_,rfl⟩
  have le:e.length<=q.length:=by rw[<-T];unfold elO;rw[Ec,Eh];omega
  have hBt:=Iz t.at'
  have hS:=im e
  rw[hdt,dM,T,hS] at O
  unfold elO at T
  have hz:=fun y=>ZV (b:=e) (q:=y)
  rw[hS] at hz
  generalize C:SD e=Y at O hz
  obtain⟨yk,y1,y2⟩:=Y
  simp only at O hz
  (repeat'((conv=>whnf);first|refine zP ?_|refine Jn 894 17 [301,302,303,305,306,367,304] Tryz.func305 rfl rfl rfl rfl rfl fun B=> ?_|refine NIdx.tab (fun _=>rfl) hgt ?_|(refine NSl.bytes t.at' t.stop e T ?_)));(all_goals(conv=>whnf))
  refine G6 ⟨[(2,.ptr 901 0),(6,.ptr 900 0),(9,bv yk),(1000000,.d (By false q)),(1000003,.cl 305 [] [.ptr 901 0]),(1000008,.ptr 508 0),(1000033,.d (Gw w)),(1000034,iv w.length),(1000035,iv j),(1000012,.ptr 512 0),(3000000,.d (By false d)),(3000003,.cl 303 [] [.ptr 901 0]),(3000008,.ptr 308 0),(3000033,.d (Gw [u,v])),(3000034,iv ([u,v]:List El).length),(3000035,iv 1),(3000012,.ptr 312 0),(4000002,.ptr 4 0),(4000006,.ptr 901 0),(5000000,.d (By false b)),(5000003,.cl 302 [] [.ptr 4 0]),(5000008,.ptr 108 0),(5000033,.d (Gw l)),(5000034,iv l.length),(5000035,iv i),(5000012,.ptr 112 0),(6000003,.ptr 3 0),(6000004,.ptr 4 0)],[(3,[iv 0,iv 0]),(4,[Fy 1000 2 494 poO a]),(108,[iv 0,iv 0]),(112,[iv x.c,iv x.n,bv x.k,iv x.at',iv x.body,iv x.stop]),(308,[iv 0,iv 0]),(312,[iv v.c,iv v.n,bv v.k,iv v.at',iv v.body,iv v.stop]),(508,[iv 0,iv 0]),(901,[sx s,Fy 3000 2 496 quO N]),(512,[iv t.c,iv t.n,bv t.k,iv t.at',iv t.body,iv t.stop]),(900,[sx y1,.d (By true y2)])],[(1000,(a.length,2,494)),(3000,(N.length,2,496))]⟩ ?_ ?_
  ·have J:=Fc e 0 16 Aa
   have A:=fun x=>Ez (b:=e) (c:=0) (n:=16) (x:=x)
   clear f O hz hBt hBv hBu K hdt hgt hg hdr
   unfold SD X9 at C
   generalize Dn e 0 16=R4 at J A C
   obtain⟨r,c4,o4⟩:=R4
   simp only at A C
   by_cases q1:c4≠0
   ·rw[lrA,Aj q1] at J
    rw[Aj q1] at C
    cases C
    have gc:((c4:Int) !=0)=true:=by rw[Av];omega
    have gd:((c4:Int)==0)=false:=by rw[An];omega
    simp only at J
    (repeat'((conv=>whnf);first|refine zP ?_|refine inY 700 10 [301,302,303,305,306,367,304] Tryz.func306 rfl rfl rfl rfl fun B=> ?_|refine inY 600 55 [301,302,303,305,306,367,304] Tryz.func301 rfl rfl rfl rfl fun B=> ?_|refine Al J Ie ?_));(all_goals(conv=>whnf))
    all_goals(try rw[gd])
    all_goals exact J6
   rw[lrA,Ai q1] at J
   rw[Ai q1] at C
   match r with
   |[]=>
    rw[Aj Ab] at C
    cases C
    (repeat'((conv=>whnf);first|refine Ej ?_|refine Ee ?_|refine inY 700 10 [301,302,303,305,306,367,304] Tryz.func306 rfl rfl rfl rfl fun B=> ?_|refine inY 600 55 [301,302,303,305,306,367,304] Tryz.func301 rfl rfl rfl rfl fun B=> ?_|refine Al J Ie ?_|refine Al L rfl ?_));(all_goals(conv=>whnf))
    all_goals exact J6
   |[H]=>
    rw[Aj Ab] at C
    cases C
    (repeat'((conv=>whnf);first|refine Ej ?_|refine Ee ?_|refine inY 700 10 [301,302,303,305,306,367,304] Tryz.func306 rfl rfl rfl rfl fun B=> ?_|refine inY 600 55 [301,302,303,305,306,367,304] Tryz.func301 rfl rfl rfl rfl fun B=> ?_|refine Al J Ie ?_|refine Al L rfl ?_));(all_goals(conv=>whnf))
    all_goals exact J6
   |H::r1::r2::rr=>
    rw[Aj Ab] at C
    cases C
    have g1:decide ((((H::r1::r2::rr).length:Nat):Int)<2)=false:=Ao (by simp only[D9];omega)
    have g2:decide ((((H::r1::r2::rr).length:Nat):Int)>2)=true:=Aq (by simp only[D9];omega)
    (repeat'((conv=>whnf);first|refine zP ?_|refine zN ?_|refine Ej ?_|refine Ee ?_|refine inY 700 10 [301,302,303,305,306,367,304] Tryz.func306 rfl rfl rfl rfl fun B=> ?_|refine inY 600 55 [301,302,303,305,306,367,304] Tryz.func301 rfl rfl rfl rfl fun B=> ?_|refine Al J Ie ?_|refine Al L rfl ?_));(all_goals(conv=>whnf))
    all_goals exact J6
   |[H,r1]=>
    rw[Ai Ab] at C
    obtain⟨a1,a2,a3⟩:=A H Ab
    obtain⟨b1,b2,b3⟩:=A r1 Ab
    have g0:([H,r1]:List El)[0]?=some H:=rfl
    have g1:([H,r1]:List El)[1]?=some r1:=rfl
    obtain⟨f0,Z⟩:∃y,elO e H=y:=⟨_,rfl⟩
    obtain⟨f1,P⟩:∃y,elO e r1=y:=⟨_,rfl⟩
    have lf0:f0.length<=e.length:=by rw[<-Z];exact S6 e H
    have lf1:f1.length<=e.length:=by rw[<-P];exact S6 e r1
    have hA:=RZ f0 Aa
    have hC:=Gq f1 Aa
    have hO:=eB f1 Aa
    have hB1:=Iz H.at'
    have hB2:=Iz r1.at'
    simp only at C
    rw[Z,P] at C
    unfold elO at Z P
    generalize Kb f0=F at hA C
    obtain⟨fs,fk⟩:=F
    simp only at hA C
    (repeat'((conv=>whnf);first|refine Ee ?_|refine inY 700 10 [301,302,303,305,306,367,304] Tryz.func306 rfl rfl rfl rfl fun B=> ?_|refine inY 600 55 [301,302,303,305,306,367,304] Tryz.func301 rfl rfl rfl rfl fun B=> ?_|refine Al J Ie ?_));(all_goals(conv=>whnf))
    refine Fh (fun z:Nat=>z<=2/\(1<=z->fk=true)/\(z=2->yk=true/\y1=fs/\y2=f1)) (fun z=>2-z) (fun z:Nat=>match z with|0=>⟨[(0,.d (By false e)),(3,.cl 367 [] [.ptr 703 0]),(8,.ptr 608 0),(33,.d (Gw [H,r1])),(34,iv ([H,r1]:List El).length),(35,iv 0),(2000002,.ptr 901 0),(2000006,.ptr 900 0),(3000000,.d (By false q)),(3000003,.cl 305 [] [.ptr 901 0]),(3000008,.ptr 508 0),(3000033,.d (Gw w)),(3000034,iv w.length),(3000035,iv j),(3000012,.ptr 512 0),(5000000,.d (By false d)),(5000003,.cl 303 [] [.ptr 901 0]),(5000008,.ptr 308 0),(5000033,.d (Gw [u,v])),(5000034,iv ([u,v]:List El).length),(5000035,iv 1),(5000012,.ptr 312 0),(6000002,.ptr 4 0),(6000006,.ptr 901 0),(7000000,.d (By false b)),(7000003,.cl 302 [] [.ptr 4 0]),(7000008,.ptr 108 0),(7000033,.d (Gw l)),(7000034,iv l.length),(7000035,iv i),(7000012,.ptr 112 0),(8000003,.ptr 3 0),(8000004,.ptr 4 0)],[(3,[iv 0,iv 0]),(4,[Fy 1000 2 494 poO a]),(108,[iv 0,iv 0]),(112,[iv x.c,iv x.n,bv x.k,iv x.at',iv x.body,iv x.stop]),(308,[iv 0,iv 0]),(312,[iv v.c,iv v.n,bv v.k,iv v.at',iv v.body,iv v.stop]),(508,[iv 0,iv 0]),(901,[sx s,Fy 3000 2 496 quO N]),(512,[iv t.c,iv t.n,bv t.k,iv t.at',iv t.body,iv t.stop]),(703,[.ptr 900 0]),(608,[iv 0,iv 0]),(900,[sx [],Ff])],[(1000,(a.length,2,494)),(3000,(N.length,2,496))]⟩|1=>⟨[(0,.d (By false e)),(3,.cl 367 [] [.ptr 703 0]),(8,.ptr 608 0),(33,.d (Gw [H,r1])),(34,iv ([H,r1]:List El).length),(35,iv 1),(2000002,.ptr 901 0),(2000006,.ptr 900 0),(3000000,.d (By false q)),(3000003,.cl 305 [] [.ptr 901 0]),(3000008,.ptr 508 0),(3000033,.d (Gw w)),(3000034,iv w.length),(3000035,iv j),(3000012,.ptr 512 0),(5000000,.d (By false d)),(5000003,.cl 303 [] [.ptr 901 0]),(5000008,.ptr 308 0),(5000033,.d (Gw [u,v])),(5000034,iv ([u,v]:List El).length),(5000035,iv 1),(5000012,.ptr 312 0),(6000002,.ptr 4 0),(6000006,.ptr 901 0),(7000000,.d (By false b)),(7000003,.cl 302 [] [.ptr 4 0]),(7000008,.ptr 108 0),(7000033,.d (Gw l)),(7000034,iv l.length),(7000035,iv i),(7000012,.ptr 112 0),(8000003,.ptr 3 0),(8000004,.ptr 4 0)],[(3,[iv 0,iv 0]),(4,[Fy 1000 2 494 poO a]),(108,[iv 0,iv 0]),(112,[iv x.c,iv x.n,bv x.k,iv x.at',iv x.body,iv x.stop]),(308,[iv 0,iv 0]),(312,[iv v.c,iv v.n,bv v.k,iv v.at',iv v.body,iv v.stop]),(508,[iv 0,iv 0]),(901,[sx s,Fy 3000 2 496 quO N]),(512,[iv t.c,iv t.n,bv t.k,iv t.at',iv t.body,iv t.stop]),(703,[.ptr 900 0]),(608,[iv 0,iv 0]),(900,[sx fs,Ff])],[(1000,(a.length,2,494)),(3000,(N.length,2,496))]⟩|_=>⟨[(0,.d (By false e)),(3,.cl 367 [] [.ptr 703 0]),(8,.ptr 608 0),(33,.d (Gw [H,r1])),(34,iv ([H,r1]:List El).length),(35,iv 2),(2000002,.ptr 901 0),(2000006,.ptr 900 0),(3000000,.d (By false q)),(3000003,.cl 305 [] [.ptr 901 0]),(3000008,.ptr 508 0),(3000033,.d (Gw w)),(3000034,iv w.length),(3000035,iv j),(3000012,.ptr 512 0),(5000000,.d (By false d)),(5000003,.cl 303 [] [.ptr 901 0]),(5000008,.ptr 308 0),(5000033,.d (Gw [u,v])),(5000034,iv ([u,v]:List El).length),(5000035,iv 1),(5000012,.ptr 312 0),(6000002,.ptr 4 0),(6000006,.ptr 901 0),(7000000,.d (By false b)),(7000003,.cl 302 [] [.ptr 4 0]),(7000008,.ptr 108 0),(7000033,.d (Gw l)),(7000034,iv l.length),(7000035,iv i),(7000012,.ptr 112 0),(8000003,.ptr 3 0),(8000004,.ptr 4 0)],[(3,[iv 0,iv 0]),(4,[Fy 1000 2 494 poO a]),(108,[iv 0,iv 0]),(112,[iv x.c,iv x.n,bv x.k,iv x.at',iv x.body,iv x.stop]),(308,[iv 0,iv 0]),(312,[iv v.c,iv v.n,bv v.k,iv v.at',iv v.body,iv v.stop]),(508,[iv 0,iv 0]),(901,[sx s,Fy 3000 2 496 quO N]),(512,[iv t.c,iv t.n,bv t.k,iv t.at',iv t.body,iv t.stop]),(703,[.ptr 900 0]),(608,[iv 0,iv 0]),(900,[sx fs,.d (By true f1)])],[(1000,(a.length,2,494)),(3000,(N.length,2,496))]⟩) 0 ⟨Ab,fun h=>Bg h Ae,fun h=>Bg h Ae⟩ leQ ?_
    rintro n ⟨hn,hf1',hf2'⟩
    match n,hn with
    |0,_=>
     cases fk
     ·rw[Aj rfl] at C
      cases C
      (repeat'((conv=>whnf);first|refine Ej ?_|refine Cs (Eb rfl rfl (ltN rfl) rfl) ?_|refine Jn 800 20 [301,302,303,305,306,367,304] Tryz.func367 rfl rfl rfl rfl rfl fun B=> ?_|refine NIdx.tab (fun _=>rfl) g0 ?_|(refine NSl.bytes H.at' H.stop f0 Z ?_)|refine pQ hA ?_|refine Al hB1 rfl ?_));(all_goals(conv=>whnf))
      all_goals exact J6
     ·(repeat'((conv=>whnf);first|refine Ej ?_|refine Ee ?_|refine Cs (Eb rfl rfl (ltN rfl) rfl) ?_|refine Jn 800 20 [301,302,303,305,306,367,304] Tryz.func367 rfl rfl rfl rfl rfl fun B=> ?_|refine NIdx.tab (fun _=>rfl) g0 ?_|(refine NSl.bytes H.at' H.stop f0 Z ?_)|refine pQ hA ?_|(with_reducible refine NInt.i64 ?_)));(all_goals(conv=>whnf))
      refine⟨1,⟨Ab,fun _=>rfl,fun h=>by cases h⟩,Ab,?_⟩
      exact leQ
    |2,_=>
     obtain⟨rfl,rfl,rfl⟩:=hf2' rfl
     (repeat'((conv=>whnf);refine Ee ?_));(all_goals(conv=>whnf))
     all_goals exact J6
    |1,_=>
     obtain rfl:=hf1' Ab
     rw[Ai Ab] at C
     generalize Gt f1=fw at hO C
     cases C
     cases yk
     ·(repeat'((conv=>whnf);first|refine Ej ?_|refine Ee ?_|refine zG ?_|refine NLa.mk ⟨_,Hk rfl rfl (ltN rfl) rfl,?_⟩|refine Jn 800 20 [301,302,303,305,306,367,304] Tryz.func367 rfl rfl rfl rfl rfl fun B=> ?_|refine NIdx.tab (fun _=>rfl) g1 ?_|(refine NSl.bytes r1.at' r1.stop _ P ?_)|refine Al hC Ie ?_|refine Al hO Ie ?_|refine Al hB2 rfl ?_));(all_goals(conv=>whnf))
      all_goals exact J6
     ·(repeat'((conv=>whnf);first|refine Ej ?_|refine Ee ?_|refine zG ?_|refine NLa.mk ⟨_,Hk rfl rfl (ltN rfl) rfl,?_⟩|refine Jn 800 20 [301,302,303,305,306,367,304] Tryz.func367 rfl rfl rfl rfl rfl fun B=> ?_|refine NIdx.tab (fun _=>rfl) g1 ?_|(refine NSl.bytes r1.at' r1.stop _ P ?_)|refine Al hC Ie ?_|refine Al hO Ie ?_|(with_reducible refine NInt.i64 ?_)));(all_goals(conv=>whnf))
      refine⟨2,⟨Ab,fun _=>rfl,fun _=>⟨rfl,rfl,rfl⟩⟩,Ab,?_⟩
      exact leQ
  cases yk
  ·rw[Ai Ab] at O
   simp only[Dy] at O
   subst O
   simp only[Dy] at f
   subst f
   (repeat'((conv=>whnf);first|refine Ej ?_|refine zG ?_|refine E4 quO ((y1,y2):Qu) ?_|refine Al hBt rfl ?_|refine Al hBv rfl ?_|refine Al K rfl ?_|refine E4 poO ((s,N++[(y1,y2)]):Po) ?_|exact zE))
  ·rw[Aj rfl] at O hz
   have hz:=hz _ rfl
   simp only at O hz
   (repeat'((conv=>whnf);first|refine Ee ?_|refine E4 quO ((y1,y2):Qu) ?_|(with_reducible refine NInt.i64 ?_)));(all_goals(conv=>whnf))
   refine⟨(j+1,N++[(y1,y2)]),⟨hjl,by simp only[En,D9,Ax];omega,fun y X=> ?_,?_⟩,by simp only;omega,?_⟩
   ·rcases Cm.1 X with X|X
    ·exact hqz y X
    ·obtain rfl:=Bh.1 X
     exact⟨by simp only;omega,by simp only;omega⟩
   ·rw[<-O]
    cases dM q (w.drop (j+1))<;>simp
   ·exact leQ
theorem ZW (l:List Qu):Ef (l.flatMap mpC)=l.flatMap mpC:=by
 induction l with
 |nil=>rfl
 |cons x r a=>
  show D.un (sD x.1)::D.un (sD x.2)::Ef (r.flatMap mpC)=_
  rw[a];rfl
theorem Mi {p:Prop} (h:p:=by first|rfl|(simp only[D8,AV.ren,AV.give,D.un,Ef,D7,D6,Ap,Am,Ak,Ea,Ed,Ep,Eo,CB,ZW,Fy];first|done|rfl)):p:=h
theorem SF (a b:List UInt8) (C:b.length<=800000):PC Tryz.prog 304 900 8000 [.d (By false b),.ptr 900 1] [sx a,sx []] (fun r c=>r=bv (Kb b).2/\c=[sx a,sx (Kb b).1]):=by
 have i:=Hj b Aa
 have A:=Fa b
 unfold Kb
 generalize Em b=o at i A|-
 obtain⟨x,c,f⟩:=o
 rw[erR] at i
 simp only at A i|-
 by_cases h:c≠0
 ·rw[Aj (by simp[h])]
  have g:((c:Int) !=0)=true:=by rw[Av];omega
  refine pcY 8000 37 [301,367,304] Tryz.func304 rfl rfl fun z _ _ _ n p s m l j=> ?_
  (repeat'((conv=>whnf);first|refine zP ?_|refine zN ?_|refine Ej ?_|refine Ee ?_|refine cY ?_|refine Al i Mi ?_|exact z7))
 obtain rfl:c=0:=As.1 h
 have v:=Fo x 0 6 false
 cases y:x.isB 0 6 false
 ·rw[y] at v
  rw[Aj Ab]
  refine pcY 8000 37 [301,367,304] Tryz.func304 rfl rfl fun z _ _ _ n p s m l j=> ?_
  (repeat'((conv=>whnf);first|refine Ej ?_|refine Ee ?_|refine cY ?_|refine Al i Mi ?_|refine Al v rfl ?_|exact z7))
 rw[y] at v
 rw[Ai Ab]
 obtain⟨d,w⟩:∃q,bod b x=q:=⟨_,rfl⟩
 have B:d.length<=b.length:=by rw[<-w];unfold bod;rw[Ec,Eh];omega
 rw[w]
 have u:=G5 d Aa
 unfold bod at w
 rw[Ox] at u
 generalize odT d=t at u|-
 generalize odC d=k at u|-
 have e:((k:Int)==0)=(k==0):=by rw[Bz,A9,A9];omega
 simp only
 rw[<-e]
 refine pcY 8000 37 [301,367,304] Tryz.func304 rfl rfl fun z _ _ _ n p s m l j=> ?_
 (repeat'((conv=>whnf);first|refine Ee ?_|refine cY ?_|refine Cs (Eb rfl rfl (ltN rfl) rfl) ?_|refine Al i Mi ?_|refine Al v rfl ?_|(refine NSl.bytes x.body x.stop d w ?_)|refine Al u Mi ?_|exact z7))
def ZX (l:List Qu):Bool:= !l.isEmpty&&l.all fun m=>P8 m.1&&P8 m.2
def Qw (b:List UInt8):List El->List Qu->Option (List Qu)×Nat×Nat
 |[],a=>if ZX a=true then(some a,0,0) else(none,6,0)
 |x::r,a=>match QG (elO b x) with
  |none=>(none,6,x.at')
  |some p=>Qw b r (a++[p])
def eE (b:List UInt8):Option (List Qu)×Nat×Nat:=if(Dn b 0 16).code≠0 then(none,(Dn b 0 16).code,(Dn b 0 16).off) else if(Dn b 0 16).l.length<1\/2147483647<(Dn b 0 16).l.length then(none,6,0) else Qw b (Dn b 0 16).l []
theorem CE (b:List UInt8):∀(l:List El) (a:List Qu),(Qw b l a).1=(match dO b l with
 |none=>none
 |some p=>if ZX (a++p)=true then some (a++p) else none)
 |[],a=>by
  unfold Qw dO
  simp only[Am]
  split<;>rfl
 |x::r,a=>by
  have c:=CE b r
  unfold Qw dO
  cases QG (elO b x) with
  |none=>rfl
  |some p=>
   simp only
   rw[c]
   cases dO b r with
   |none=>rfl
   |some q=>simp only[Ch,Bt,Ak,Ap]
theorem CG (b:List UInt8):∀(l:List El) (a:List Qu),(Qw b l a).1=none->(Qw b l a).2.1≠0
 |[],a=>by
  unfold Qw
  split
  ·intro h;cases h
  ·intro _;simp
 |x::r,a=>by
  have c:=CG b r
  unfold Qw
  cases QG (elO b x) with
  |none=>intro _;simp
  |some p=>exact c _
theorem ZY (b:List UInt8):(eE b).1=iA b/\((eE b).1=none->(eE b).2.1≠0):=by
 unfold eE iA X9
 by_cases a:(Dn b 0 16).code≠0
 ·rw[Aj a,Aj a];exact⟨rfl,fun _=>a⟩
 rw[Ai a,Ai a]
 by_cases c:(Dn b 0 16).l.length<1\/2147483647<(Dn b 0 16).l.length
 ·rw[Aj c,Aj c];exact⟨rfl,fun _=>by simp⟩
 rw[Ai c,Ai c]
 refine⟨?_,CG b _ _⟩
 rw[CE]
 simp only
 cases dO b (Dn b 0 16).l<;>rfl
def pt:Option (List Qu)×Nat×Nat->AV
 |(some p,_)=> .tup [.d (mc p),erA 0 0]
 |(none,c,o)=> .tup [Ff,erA c o]
set_option maxHeartbeats 40000000 in
theorem SG (b:List UInt8) (hb:b.length<=6000):aC 238 [.d (By false b)] (pt (eE b)):=by
 have I:=Fc b 0 16 Aa
 have f:=fun x=>Ez (b:=b) (c:=0) (n:=16) (x:=x)
 have H:=F4 b 0 16
 unfold eE
 generalize Dn b 0 16=R at I f H|-
 obtain⟨l,c,o⟩:=R
 simp only at f H|-
 have t:=Iz 0
 by_cases T:c≠0
 ·rw[lrA,Aj T] at I
  rw[Aj T]
  have gc:((c:Int) !=0)=true:=by rw[Av];omega
  refine acY 19 [301,309,310,304] Tryz.func238 rfl rfl fun _ _ _=> ?_
  (repeat'((conv=>whnf);first|refine zP ?_|refine inY 100 55 [301,309,310,304] Tryz.func301 rfl rfl rfl rfl fun j=> ?_|refine Al I Mi ?_|refine zF ?_|exact zE))
 rw[lrA,Ai T] at I
 rw[Ai T]
 by_cases h2:l.length<1
 ·rw[Aj (.inl h2)]
  have g:decide ((l.length:Int)<1)=true:=Aq Aa
  refine acY 19 [301,309,310,304] Tryz.func238 rfl rfl fun _ _ _=> ?_
  (repeat'((conv=>whnf);first|refine zP ?_|refine zN ?_|refine Ej ?_|refine Ee ?_|refine inY 100 55 [301,309,310,304] Tryz.func301 rfl rfl rfl rfl fun j=> ?_|refine Al I Mi ?_|refine Al t rfl ?_|refine zF ?_|exact zE))
 rw[Ai Aa]
 have ga:decide ((l.length:Int)<1)=false:=Ao Aa
 have gb:decide ((l.length:Int)>2147483647)=false:=Ao Aa
 have hln:l.length<=6000:=Aa
 generalize hR:Qw b l []=R
 refine acY 19 [301,309,310,304] Tryz.func238 rfl rfl fun _ _ _=> ?_
 (repeat'((conv=>whnf);first|refine zP ?_|refine zN ?_|refine Ej ?_|refine Ee ?_|refine inY 100 55 [301,309,310,304] Tryz.func301 rfl rfl rfl rfl fun j=> ?_|refine Al I Mi ?_));(all_goals(conv=>whnf))
 clear I
 refine F2 [.b 4 0 1000 2 506] (fun z:Nat×List Qu=>z.1<=l.length/\z.2.length<=z.1/\(∀y∈z.2,y.1.length<=21*(6000+1)/\y.2.length<=21*(6000+1))/\Qw b (l.drop z.1) z.2=R) (fun z=>l.length-z.1) (fun z:Nat×List Qu=>⟨[(0,.d (By false b)),(3,.cl 309 [] [.ptr 4 0]),(8,.ptr 108 0),(33,.d (Gw l)),(34,iv l.length),(35,iv z.1),(1000003,.ptr 3 0),(1000004,.ptr 4 0)],[(3,[iv 0,iv 0]),(4,[Fy 1000 2 506 mpC z.2]),(108,[iv 0,iv 0])],[(1000,(z.2.length,2,506))]⟩) (0,[]) ⟨Ab,Ab,fun p C=>(by cases C),hR⟩ leQ ?_
 rintro⟨i,a⟩ ⟨hi,hal,E,e⟩
 simp only at hi hal E e
 by_cases N:i<l.length
 rotate_left
 ·have gi:decide ((i:Int)<(l.length:Int))=false:=Ao Aa
  rw[Bp Aa,Qw] at e
  have U:=IS a Aa (fun p C=>by have:=E p C;exact⟨Aa,Aa⟩)
  rw[show(!a.isEmpty&&a.all mpN)=ZX a from rfl] at U
  generalize ZX a=v at U e
  cases v
  ·rw[Ai Ab] at e
   subst e
   (repeat'((conv=>whnf);first|refine zP ?_|refine zN ?_|refine Ej ?_|refine Ee ?_|refine Al U Mi ?_|refine Al t rfl ?_|exact zE))
  ·rw[Aj rfl] at e
   subst e
   (repeat'((conv=>whnf);first|refine zP ?_|refine zN ?_|refine Ej ?_|refine Ee ?_|refine Al U Mi ?_|exact zE))
 have gi:decide ((i:Int)<(l.length:Int))=true:=Aq Aa
 obtain⟨x,F⟩:∃p,l[i]?=some p:=⟨_,Ev N⟩
 have hdr:l.drop i=x::l.drop (i+1):=by
  obtain⟨J,k2⟩:=Ew.1 F
  rw[<-k2];exact A5 J
 obtain⟨x1,x2,x3⟩:=f x (F9 F)
 rw[hdr,Qw] at e
 clear f H hR ga gb h2
 have r:=Iz x.at'
 obtain⟨d,B⟩:∃q,elO b x=q:=⟨_,rfl⟩
 have ld:d.length<=b.length:=by rw[<-B];unfold elO;rw[Ec,Eh];omega
 rw[B] at e
 unfold elO at B
 have A:=Fc d 0 16 Aa
 have f:=fun x=>Ez (b:=d) (c:=0) (n:=16) (x:=x)
 unfold QG X9 at e
 generalize Dn d 0 16=R2 at A f e
 obtain⟨m,Y,o2⟩:=R2
 simp only at f e
 by_cases J:Y≠0
 ·rw[lrA,Aj J] at A
  rw[Aj J] at e
  simp only at e A
  subst e
  have gc:((Y:Int) !=0)=true:=by rw[Av];omega
  have gd:((Y:Int)==0)=false:=by rw[An];omega
  (repeat'((conv=>whnf);first|refine zP ?_|refine zN ?_|refine Ej ?_|refine Ee ?_|refine zG ?_|refine Jn 894 18 [301,309,310,304] Tryz.func309 rfl rfl rfl rfl rfl fun j=> ?_|refine inY 300 55 [301,309,310,304] Tryz.func301 rfl rfl rfl rfl fun j=> ?_|refine NIdx.tab (fun _=>rfl) F ?_|(refine NSl.bytes x.at' x.stop d B ?_)|refine Al A Mi ?_|refine Al r rfl ?_|(refine L7 (a.length+1) _ ?_)|(refine H2 (fun hc hcP=> ?_) (fun hc hcP=> ?_)<;>try(exfalso;omega))|exact zE))
 rw[lrA,Ai J] at A
 rw[Ai J] at e
 match m with
 |[]=>
  rw[Aj Ab] at e
  simp only at e
  subst e
  (repeat'((conv=>whnf);first|refine zP ?_|refine zN ?_|refine Ej ?_|refine Ee ?_|refine zG ?_|refine Jn 894 18 [301,309,310,304] Tryz.func309 rfl rfl rfl rfl rfl fun j=> ?_|refine inY 300 55 [301,309,310,304] Tryz.func301 rfl rfl rfl rfl fun j=> ?_|refine NIdx.tab (fun _=>rfl) F ?_|(refine NSl.bytes x.at' x.stop d B ?_)|refine Al A Mi ?_|refine Al t rfl ?_|refine Al r rfl ?_|(refine L7 (a.length+1) _ ?_)|exact zE))
 |[u]=>
  rw[Aj Ab] at e
  simp only at e
  subst e
  (repeat'((conv=>whnf);first|refine zP ?_|refine zN ?_|refine Ej ?_|refine Ee ?_|refine zG ?_|refine Jn 894 18 [301,309,310,304] Tryz.func309 rfl rfl rfl rfl rfl fun j=> ?_|refine inY 300 55 [301,309,310,304] Tryz.func301 rfl rfl rfl rfl fun j=> ?_|refine NIdx.tab (fun _=>rfl) F ?_|(refine NSl.bytes x.at' x.stop d B ?_)|refine Al A Mi ?_|refine Al t rfl ?_|refine Al r rfl ?_|(refine L7 (a.length+1) _ ?_)|exact zE))
 |u::v::w::ms=>
  rw[Aj Ab] at e
  simp only at e
  subst e
  have g1:decide ((((u::v::w::ms).length:Nat):Int)<2)=false:=Ao (by simp only[D9];omega)
  have g2:decide ((((u::v::w::ms).length:Nat):Int)>2)=true:=Aq (by simp only[D9];omega)
  (repeat'((conv=>whnf);first|refine zP ?_|refine zN ?_|refine Ej ?_|refine Ee ?_|refine zG ?_|refine Jn 894 18 [301,309,310,304] Tryz.func309 rfl rfl rfl rfl rfl fun j=> ?_|refine inY 300 55 [301,309,310,304] Tryz.func301 rfl rfl rfl rfl fun j=> ?_|refine NIdx.tab (fun _=>rfl) F ?_|(refine NSl.bytes x.at' x.stop d B ?_)|refine Al A Mi ?_|refine Al t rfl ?_|refine Al r rfl ?_|(refine L7 (a.length+1) _ ?_)|exact zE))
 |[u,v]=>
  rw[Ai Ab] at e
  simp only at e
  obtain⟨u1,u2,u3⟩:=f u Ab
  obtain⟨v1,v2,v3⟩:=f v Ab
  have gu:([u,v]:List El)[0]?=some u:=rfl
  have gv:([u,v]:List El)[1]?=some v:=rfl
  obtain⟨p,C⟩:∃q,elO d u=q:=⟨_,rfl⟩
  obtain⟨q,L⟩:∃q,elO d v=q:=⟨_,rfl⟩
  have lp:p.length<=d.length:=by rw[<-C];exact S6 d u
  have lq:q.length<=d.length:=by rw[<-L];exact S6 d v
  have V:=SC p Aa
  have K:=fun s=>SF s q Aa
  have sp:=W6 p
  have sq:=W6 q
  have hBu:=Iz u.at'
  have Z:=Iz v.at'
  rw[C,L] at e
  unfold elO at C L
  generalize Kb p=P at V e sp
  generalize Kb q=Q at K e sq
  obtain⟨s,k⟩:=P
  obtain⟨W,k'⟩:=Q
  simp only at V K e sp sq
  have K:=K s
  clear f
  (repeat'((conv=>whnf);first|refine zP ?_|refine zN ?_|refine Ej ?_|refine Ee ?_|refine Jn 894 18 [301,309,310,304] Tryz.func309 rfl rfl rfl rfl rfl fun j=> ?_|refine inY 300 55 [301,309,310,304] Tryz.func301 rfl rfl rfl rfl fun j=> ?_|refine NIdx.tab (fun _=>rfl) F ?_|(refine NSl.bytes x.at' x.stop d B ?_)|refine Al A Mi ?_));(all_goals(conv=>whnf))
  clear A B
  refine Fh (fun z:Nat=>z<=2/\(1<=z->k=true)/\(z=2->k'=true)) (fun z=>2-z) (fun z:Nat=>match z with|0=>⟨[(0,.d (By false d)),(3,.cl 310 [] [.ptr 900 0]),(8,.ptr 308 0),(33,.d (Gw [u,v])),(34,iv ([u,v]:List El).length),(35,iv 0),(1000002,.ptr 4 0),(1000006,.ptr 900 0),(2000000,.d (By false b)),(2000003,.cl 309 [] [.ptr 4 0]),(2000008,.ptr 108 0),(2000033,.d (Gw l)),(2000034,iv l.length),(2000035,iv i),(2000012,.ptr 112 0),(3000003,.ptr 3 0),(3000004,.ptr 4 0)],[(3,[iv 0,iv 0]),(4,[Fy 1000 2 506 mpC a]),(108,[iv 0,iv 0]),(112,[iv x.c,iv x.n,bv x.k,iv x.at',iv x.body,iv x.stop]),(900,[sx [],sx []]),(308,[iv 0,iv 0])],[(1000,(a.length,2,506))]⟩|1=>⟨[(0,.d (By false d)),(3,.cl 310 [] [.ptr 900 0]),(8,.ptr 308 0),(33,.d (Gw [u,v])),(34,iv ([u,v]:List El).length),(35,iv 1),(1000002,.ptr 4 0),(1000006,.ptr 900 0),(2000000,.d (By false b)),(2000003,.cl 309 [] [.ptr 4 0]),(2000008,.ptr 108 0),(2000033,.d (Gw l)),(2000034,iv l.length),(2000035,iv i),(2000012,.ptr 112 0),(3000003,.ptr 3 0),(3000004,.ptr 4 0)],[(3,[iv 0,iv 0]),(4,[Fy 1000 2 506 mpC a]),(108,[iv 0,iv 0]),(112,[iv x.c,iv x.n,bv x.k,iv x.at',iv x.body,iv x.stop]),(900,[sx s,sx []]),(308,[iv 0,iv 0])],[(1000,(a.length,2,506))]⟩|_=>⟨[(0,.d (By false d)),(3,.cl 310 [] [.ptr 900 0]),(8,.ptr 308 0),(33,.d (Gw [u,v])),(34,iv ([u,v]:List El).length),(35,iv 2),(1000002,.ptr 4 0),(1000006,.ptr 900 0),(2000000,.d (By false b)),(2000003,.cl 309 [] [.ptr 4 0]),(2000008,.ptr 108 0),(2000033,.d (Gw l)),(2000034,iv l.length),(2000035,iv i),(2000012,.ptr 112 0),(3000003,.ptr 3 0),(3000004,.ptr 4 0)],[(3,[iv 0,iv 0]),(4,[Fy 1000 2 506 mpC a]),(108,[iv 0,iv 0]),(112,[iv x.c,iv x.n,bv x.k,iv x.at',iv x.body,iv x.stop]),(900,[sx s,sx W]),(308,[iv 0,iv 0])],[(1000,(a.length,2,506))]⟩) 0 ⟨Ab,fun h=>Bg h Ae,fun h=>Bg h Ae⟩ leQ ?_
  rintro n ⟨hn,O,X⟩
  match n,hn with
  |0,_=>
   cases k
   ·rw[C4,Ai Ab] at e
    simp only at e
    subst e
    (repeat'((conv=>whnf);first|refine Ej ?_|refine zG ?_|refine Jn 600 14 [301,309,310,304] Tryz.func310 rfl rfl rfl rfl rfl fun j=> ?_|refine NIdx.tab (fun _=>rfl) gu ?_|(refine NSl.bytes u.at' u.stop p C ?_)|refine pQ V ?_|refine Al hBu rfl ?_|refine Al r rfl ?_|(refine L7 (a.length+1) _ ?_)|exact zE))
   ·(repeat'((conv=>whnf);first|refine Ej ?_|refine Ee ?_|refine Jn 600 14 [301,309,310,304] Tryz.func310 rfl rfl rfl rfl rfl fun j=> ?_|refine NIdx.tab (fun _=>rfl) gu ?_|(refine NSl.bytes u.at' u.stop p C ?_)|refine pQ V ?_|(with_reducible refine NInt.i64 ?_)));(all_goals(conv=>whnf))
    refine⟨1,⟨Ab,fun _=>rfl,fun h=>by cases h⟩,Ab,?_⟩
    exact leQ
  |2,_=>
   obtain rfl:=X rfl
   obtain rfl:=O Ab
   rw[Cd,Aj rfl] at e
   simp only at e
   (repeat'((conv=>whnf);first|refine Ee ?_|refine E4 mpC ((s,W):Qu) ?_|(with_reducible refine NInt.i64 ?_)));(all_goals(conv=>whnf))
   refine⟨(i+1,a++[(s,W)]),⟨N,by simp only[En,D9,Ax];omega,fun y M=> ?_,e⟩,by simp only;omega,?_⟩
   ·rcases Cm.1 M with M|M
    ·exact E y M
    ·obtain rfl:=Bh.1 M
     exact⟨by simp only;omega,by simp only;omega⟩
   ·exact leQ
  |1,_=>
   obtain rfl:=O Ab
   rw[Cd] at e
   cases k'
   ·rw[Ai Ab] at e
    simp only at e
    subst e
    (repeat'((conv=>whnf);first|refine Ej ?_|refine Ee ?_|refine zG ?_|refine Jn 600 14 [301,309,310,304] Tryz.func310 rfl rfl rfl rfl rfl fun j=> ?_|refine NIdx.tab (fun _=>rfl) gv ?_|(refine NSl.bytes v.at' v.stop q L ?_)|refine pQ K ?_|refine Al Z rfl ?_|refine Al r rfl ?_|refine E4 mpC ((s,W):Qu) ?_|exact zE))
   ·(repeat'((conv=>whnf);first|refine Ej ?_|refine Ee ?_|refine Jn 600 14 [301,309,310,304] Tryz.func310 rfl rfl rfl rfl rfl fun j=> ?_|refine NIdx.tab (fun _=>rfl) gv ?_|(refine NSl.bytes v.at' v.stop q L ?_)|refine pQ K ?_|(with_reducible refine NInt.i64 ?_)));(all_goals(conv=>whnf))
    refine⟨2,⟨Ab,fun _=>rfl,fun _=>rfl⟩,Ab,?_⟩
    exact leQ
theorem wS (b:List UInt8) (e:b.length<=6000):(∃p,hX b=some p/\aC 235 [.d (By false b)] (.tup [.d (RS p),erA 0 0]))\/(hX b=none/\∃c o:Nat,c≠0/\aC 235 [.d (By false b)] (.tup [Ff,erA c o])):=by
 have h:=SE b e
 obtain⟨a,d⟩:=ZU b
 generalize eD b=R at h a d
 obtain⟨_|p,c,o⟩:=R
 ·exact .inr ⟨a.symm,c,o,d rfl,h⟩
 ·exact .inl ⟨p,a.symm,h⟩
theorem wT (b:List UInt8) (e:b.length<=6000):(∃p,iA b=some p/\aC 238 [.d (By false b)] (.tup [.d (mc p),erA 0 0]))\/(iA b=none/\∃c o:Nat,c≠0/\aC 238 [.d (By false b)] (.tup [Ff,erA c o])):=by
 have h:=SG b e
 obtain⟨a,d⟩:=ZY b
 generalize eE b=R at h a d
 obtain⟨_|p,c,o⟩:=R
 ·exact .inr ⟨a.symm,c,o,d rfl,h⟩
 ·exact .inl ⟨p,a.symm,h⟩
end Go.Proofs.YtbedjionhmaafaaGreatDoor
