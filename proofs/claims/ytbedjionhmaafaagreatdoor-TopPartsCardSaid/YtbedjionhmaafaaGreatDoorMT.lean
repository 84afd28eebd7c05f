/- MT: the texts Rz R13P GenS GenW GenV, one behind the other. No condition but what each lemma says. -/
import Derived.Test.YtbedjionhmaafaaGreatDoorMQ
set_option linter.all false
set_option maxRecDepth 100000
set_option maxHeartbeats 16000000
namespace Go.Proofs.YtbedjionhmaafaaGreatDoor
open Go.RowKit
variable {l:List Gn}
theorem OJ (k:Int) (c:List UInt8):(Ke k c).length≤4*c.length:=by
 grind [Ke,Ok,Yj,E6,Nat.div_le_self]
theorem T1:nmZ []:=⟨Ab,Ab,Ab⟩
theorem X3 (a b:List D):Ef (a++b)=Ef a++Ef b:=by
 induction a with
 |nil=>rfl
 |cons x r c=>grind [D.un,Ef]
structure gnsZ (l:List Gn):Prop where
 n:l.length≤100000
 z:∀g∈l,Gn.zz g
 e:(l.map gnE).flatten.length≤90000000
def T9 (l:List Gn):Bool:= !l.isEmpty&&l.all gnW
theorem Hy (c n:Nat) (k:Bool) (l:List UInt8):l.length+2≤(Ei c n k l).length:=by
 grind [FZ,Ei,L9]
theorem Wt {a:Type} (f:a→List UInt8) (k:Nat):∀{l:List a},(∀x∈l,k≤(f x).length)→k*l.length≤(l.map f).flatten.length
 |[],_=>by simp
 |x::r,h=>by
  have c:=h x Ab
  have d:=Wt f k (l:=r) fun y b=>h y (by simp[b])
  rw[Bc,Cq,En,D9,Nat.mul_add];omega
theorem km {a:Att} (h:atV a=true) (g:(atE a).length≤400000):a.sm∧4≤(atE a).length:=by
 obtain⟨b,-⟩:=kA h
 have d:=bN b
 have f:=Hy 0 6 false (Gs a.oid)
 have c:=Hy 0 16 true (Ei 0 6 false (Gs a.oid)++a.val)
 rw[En] at c
 have e:(atE a).length=(Ei 0 16 true (Ei 0 6 false (Gs a.oid)++a.val)).length:=rfl
 exact⟨⟨Aa,Aa⟩,Aa⟩
theorem OK {r:List Att} (h:My r=true) (m:(Ka r).length≤400000):rdnZ r∧4≤(Ka r).length:=by
 obtain⟨d,g,-⟩:=Zo h
 have j:=Hy 0 17 true (r.map atE).flatten
 have e:(Ka r).length=(Ei 0 17 true (r.map atE).flatten).length:=rfl
 have c:∀a∈r,a.sm∧4≤(atE a).length:=fun a b=>by
  have:=Lb (List.mem_map_of_mem (f:=atE) b)
  grind [km,List.all_eq_true]
 have i:=Wt atE 4 fun a b=>(c a b).2
 have k:1≤r.length:=by cases r with|nil=>exact Bg rfl d|cons _ _=>simp
 exact⟨⟨Aa,fun a b=>(c a b).1,Aa⟩,Aa⟩
theorem OL {n:List (List Att)} (h:nmV n=true) (g:(nmE n).length≤400000):nmZ n:=by
 have d:=Hy 0 16 true (n.map Ka).flatten
 have e:(nmE n).length=(Ei 0 16 true (n.map Ka).flatten).length:=rfl
 have b:∀r∈n,rdnZ r∧4≤(Ka r).length:=fun r a=>by
  have:=Lb (List.mem_map_of_mem (f:=Ka) a)
  exact OK (B0.1 h r a) Aa
 have c:=Wt Ka 4 fun r a=>(b r a).2
 exact⟨Aa,fun r a=>(b r a).1,Aa⟩
theorem OM {k:Int} {l:List UInt8} (h:Ey k l=true):l.length≤4*(chS k l).length:=by
 grind [OJ,chS,cG]
theorem ON {k:Int} {l:List UInt8} (h:Ey k l=true):l.length≤4*(txE k l).length:=by
 have a:=OM h
 grind [Hy,chS,txE]
theorem WX {g:Gn} (h:gnW g=true) (F:(gnE g).length≤400000):g.mid:=by
 obtain⟨y,-,⟨c,a⟩,E⟩:=(Zq g).1 h
 have w:c.length≤400000:=by
  have:=Hy 2 g.k.toNat (Jq g.k) ((Nx g).getD [])
  have e:(gnE g).length=(Ei 2 g.k.toNat (Jq g.k) ((Nx g).getD [])).length:=rfl
  rw[a] at this e
  have A:((some c).getD [])=c:=rfl
  rw[A] at this e;omega
 refine⟨?_,by rw[a];show c.length≤_;omega⟩
 obtain⟨m,C,z⟩:=kJ a
 obtain⟨k,b,o,d,p,n,i,pk,j⟩:=g
 rw[Jm] at y
 obtain⟨t,s,v,r,q⟩:=y
 simp only at z t s v r q
 subst z
 unfold Nx at a
 simp only at a
 have I:([]:List UInt8).length=0:=rfl
 rcases(by omega:m=0∨m=1∨m=2∨m=3∨m=4∨m=5∨m=6∨m=7∨m=8) with rfl|rfl|rfl|rfl|rfl|rfl|rfl|rfl|rfl
 ·obtain rfl:o=[]:=by simpa using s
  obtain rfl:p=[]:=by simpa using r
  obtain⟨⟨rfl,rfl⟩,rfl,rfl⟩:(n=0∧i=[])∧pk=0∧j=[]:=by simpa using q
  rw[Aj Ah] at a
  by_cases f:H7 b=true
  ·rw[Aj f] at a
   obtain rfl:=Az a
   have:=bN f
   have:=Hy 0 6 false (Gs b)
   have:=Hy 2 0 true d
   rw[En] at w
   exact⟨by show b.length≤_;omega,Ab,by show d.length≤_;omega,T1,Ab,Ab⟩
  ·rw[Ai f] at a;cases a
 case inr.inr.inr.inl=>
  obtain rfl:b=[]:=by simpa using t
  obtain rfl:o=[]:=by simpa using s
  obtain rfl:p=[]:=by simpa using r
  obtain⟨⟨rfl,rfl⟩,rfl,rfl⟩:(n=0∧i=[])∧pk=0∧j=[]:=by simpa using q
  rw[Ai Ae,Ai Ae,Aj Ae] at a
  obtain rfl:=Az a
  exact⟨Ab,Ab,by show d.length≤_;omega,T1,Ab,Ab⟩
 case inr.inr.inr.inr.inl=>
  obtain rfl:b=[]:=by simpa using t
  obtain rfl:o=[]:=by simpa using s
  obtain rfl:d=[]:=by simpa using v
  obtain⟨⟨rfl,rfl⟩,rfl,rfl⟩:(n=0∧i=[])∧pk=0∧j=[]:=by simpa using q
  rw[Ai Ae,Ai Ae,Ai Ae,Aj Ah] at a
  by_cases f:nmV p=true
  ·rw[Aj f] at a
   obtain rfl:=Az a
   exact⟨Ab,Ab,Ab,OL f w,Ab,Ab⟩
  ·rw[Ai f] at a;cases a
 case inr.inr.inr.inr.inr.inl=>
  obtain rfl:b=[]:=by simpa using t
  obtain rfl:o=[]:=by simpa using s
  obtain rfl:d=[]:=by simpa using v
  obtain rfl:p=[]:=by simpa using r
  rw[Ai Ae,Ai Ae,Ai Ae,Ai Ae,Aj Ah] at a
  unfold kF at a
  simp only at a
  by_cases u:((zT n i||Ey n i)&&Ey pk j)=true
  ·rw[Aj u] at a
   obtain rfl:=Az a
   rw[Et,Co] at u
   have B:=ON u.2
   have H:=Hy 2 1 true (txE pk j)
   rw[En] at w
   refine⟨Ab,Ab,Ab,T1,?_,by show j.length≤_;omega⟩
   show i.length≤_
   by_cases x:zT n i=true
   ·rw[(kQ.1 x).2];simp
   ·rw[Ai x] at w
    have k3:=ON (u.1.resolve_left x)
    grind [Hy,txE]
  ·rw[Ai u] at a;cases a
 case inr.inr.inr.inr.inr.inr.inr.inl=>
  obtain rfl:b=[]:=by simpa using t
  obtain rfl:o=[]:=by simpa using s
  obtain rfl:p=[]:=by simpa using r
  obtain⟨⟨rfl,rfl⟩,rfl,rfl⟩:(n=0∧i=[])∧pk=0∧j=[]:=by simpa using q
  rw[Ai Ae,Ai Ae,Aj Ae] at a
  obtain rfl:=Az a
  exact⟨Ab,Ab,by show d.length≤_;omega,T1,Ab,Ab⟩
 case inr.inr.inr.inr.inr.inr.inr.inr=>
  obtain rfl:o=[]:=by simpa using s
  obtain rfl:d=[]:=by simpa using v
  obtain rfl:p=[]:=by simpa using r
  obtain⟨⟨rfl,rfl⟩,rfl,rfl⟩:(n=0∧i=[])∧pk=0∧j=[]:=by simpa using q
  rw[Ai Ae,Ai Ae,Ai Ae,Ai Ae,Ai Ae,Aj Ah] at a
  by_cases f:H7 b=true
  ·rw[Aj f] at a
   obtain rfl:=Az a
   have:=bN f
   exact⟨by show b.length≤_;omega,Ab,Ab,T1,Ab,Ab⟩
  ·rw[Ai f] at a;cases a
 all_goals
  obtain rfl:b=[]:=by simpa using t
  obtain rfl:d=[]:=by simpa using v
  obtain rfl:p=[]:=by simpa using r
  obtain⟨⟨rfl,rfl⟩,rfl,rfl⟩:(n=0∧i=[])∧pk=0∧j=[]:=by simpa using q
  rw[Ai Ae,Aj Ae] at a
  by_cases f:Ey 22 o=true
  ·rw[Aj f] at a
   obtain rfl:=Az a
   have:=OM f
   exact⟨Ab,by show o.length≤_;omega,Ab,T1,Ab,Ab⟩
  ·rw[Ai f] at a;cases a
theorem cK (h:l.all gnW=true) (d:(l.map gnE).flatten.length≤400000):gnsM l:=by
 have b:∀g∈l,g.mid:=fun g a=>by
  have:=Lb (List.mem_map_of_mem (f:=gnE) a)
  grind [WX,List.all_eq_true]
 have c:=Wt gnE 2 (l:=l) fun g _=>by
  grind [Hy,Jq,Nx,gnE]
 exact⟨Aa,b,Aa⟩
def cM (g:Gn):List D:=[iD g.k,sD g.oid,sD g.tx,By true g.by',gX g.nm,iD g.ak,sD g.av,iD g.pk,sD g.pv]
def Nl (l:List Gn):D:=J5 true 9 cM l
theorem Md (g:Gn):Ef (cM g)=gnC g:=by simp only[cM,gnC,Ef,D7,Fi,D.un]
theorem Oa (l:List Gn):Ef (l.flatMap cM)=l.flatMap gnC:=by
 induction l with
 |nil=>rfl
 |cons g r a=>grind [X3,Md]
theorem Pr (l:List Gn):(Nl l).un=Uz l:=by
 show D.sl false l.length 9 (Ef (l.flatMap cM))=_
 rw[Oa];rfl
theorem WY (h:∀g∈l,g.mid):kK l=T9 l:=by
 grind [kK,T9,fc]
theorem OO:T9 l=true↔l≠[]∧l.all gnW=true:=by
 unfold T9
 cases l<;>simp
theorem U8 (l:List Gn) (h:gnsM l):aC 363 [.d (Uz l)] (bv (T9 l)):=by
 have a:=oY l h
 rwa[WY h.m] at a
def gpS:List (List UInt8)→Option (List Gn)
 |[]=>some []
 |p::r=>match Ks p with
  |none=>none
  |some g=>(gpS r).map (g:: ·)
def gpL (b:List UInt8):List El→Option (List Gn)×Nat×Nat
 |[]=>(some [],0,0)
 |x::r=>match Ks (elO b x) with
  |none=>(none,(U5 (elO b x)).1,x.at'+(U5 (elO b x)).2)
  |some g=>match gpL b r with
   |(some gs,_)=>(some (g::gs),0,0)
   |(none,p)=>(none,p)
def Ps (ms:List Gn):Option (List Gn)×Nat×Nat→Option (List Gn)×Nat×Nat
 |(some r,_)=>(some (ms++r),0,0)
 |(none,p)=>(none,p)
theorem pF (b:List UInt8):∀l:List El,(gpL b l).1.isSome=true→(gpL b l).2=(0,0)
 |[],_=>rfl
 |x::r,h=>by
  grind [gpL,Ks,elO]
theorem GA (b:List UInt8) (l:List El):Ps [] (gpL b l)=gpL b l:=by
 have h:=pF b l
 cases a:gpL b l with
 |mk o p=>
  rw[a] at h
  cases o with
  |none=>rfl
  |some c=>have:=h rfl;simp only at this;subst this;rfl
theorem vE {b:List UInt8} {x:El} {r:List El} {m:Gn} (a:List Gn) (c:Ks (elO b x)=some m):Ps a (gpL b (x::r))=Ps (a++[m]) (gpL b r):=by
 grind [gpL,Ps]
theorem zW (b:List UInt8):∀l:List El,(gpL b l).1=gpS (l.map (elO b))
 |[]=>rfl
 |x::r=>by
  have a:=zW b r
  rw[gpL,Bc,gpS]
  cases d:Ks (elO b x) with
  |none=>rfl
  |some m=>
   simp only
   rw[←a]
   cases c:gpL b r with
   |mk o p=>cases o<;>rfl
theorem zX {b:List UInt8}:∀{l:List El},(∀x∈l,x.at'≤x.stop∧x.stop≤b.length)→(gpL b l).1=none→(gpL b l).2.1≠0∧(gpL b l).2.2≤b.length
 |[],_,h=>by cases h
 |x::r,hx,h=>by
  have c:=zX (b:=b) (l:=r) fun y a=>hx y (by simp[a])
  rw[gpL] at h⊢
  cases d:Ks (elO b x) with
  |none=>
   grind [T0,elO,S1]
  |some m=>
   grind
theorem ly:∀{ps:List (List UInt8)} {v:List Gn},(∀p∈ps,p.length≤800000)→gpS ps=some v→v.all gnW=true∧ps=v.map gnE
 |[],v,_,h=>by
  rw[gpS] at h
  grind
 |p::r,v,hl,h=>by
  rw[gpS] at h
  cases b:Ks p with
  |none=>rw[b] at h;cases h
  |some m=>
   rw[b] at h
   cases a:gpS r with
   |none=>rw[a] at h;cases h
   |some w=>
    rw[a] at h
    obtain rfl:=Az h
    obtain⟨c,e⟩:=pE b (hl p Ab)
    obtain⟨k3,d⟩:=ly (fun q f=>hl q (by simp[f])) a
    exact⟨by rw[List.all_cons,c,k3];rfl,by rw[Bc,←e,←d]⟩
def X4 (b:List UInt8):Option (List Gn)×Nat×Nat:=
 if(Dn b 0 16).code≠0 then(none,(Dn b 0 16).code,(Dn b 0 16).off) else if(Dn b 0 16).l=[] then(none,1,b.length) else gpL b (Dn b 0 16).l
def ko:Option (List Gn)×Nat×Nat→AV
 |(some gs,_)=> .tup [.d (Nl gs),erA 0 0]
 |(none,c,p)=> .tup [Ff,erA c p]
theorem Ri (b:List UInt8) (y:b.length≤800000):(∃v:List Gn,v≠[]∧v.all gnW=true∧b=eS v∧X4 b=(some v,0,0))∨(∃c o:Nat,c≠0∧o≤b.length∧X4 b=(none,c,o)):=by
 unfold X4
 by_cases e:(Dn b 0 16).code≠0
 ·rw[Aj e]
  exact .inr ⟨_,_,e,Hg b 0 16,rfl⟩
 rw[Ai e]
 have i:=As.1 e
 obtain⟨ts,m,k,-,-,-⟩:=J2 i
 have r:(tvsE ts).length≤800000:=by
  have:=Cf List.length k
  unfold Ei at this
  rw[L9] at this;omega
 obtain⟨q,h,j⟩:=Lu (c:=0) (n:=16) ts Aa Aa m Aa
 rw[←k] at h j
 rw[h]
 by_cases t:els q ts=[]
 ·simp_all
 rw[Ai t]
 have f:=zW b (els q ts)
 rw[j] at f
 have a:=zX (b:=b) (l:=els q ts) fun x u=>by
  have:=Ez (b:=b) (c:=0) (n:=16) (x:=x) (by rw[h];exact u)
  omega
 have d:=pF b (els q ts)
 show(∃v:List Gn,v≠[]∧v.all gnW=true∧b=eS v∧gpL b (els q ts)=(some v,0,0))∨(∃c o:Nat,c≠0∧o≤b.length∧gpL b (els q ts)=(none,c,o))
 cases g:gpL b (els q ts) with
 |mk o p=>
  rw[g] at f a d
  obtain⟨c,p⟩:=p
  simp only at f a d
  cases o with
  |none=>grind
  |some v=>
   obtain⟨s,w⟩:=ly (fun p g=>by
    have:=Lb g
    rw[←Iq] at this;omega) f.symm
   have d:=d rfl
   simp only[Prod.mk.injEq] at d
   obtain⟨rfl,rfl⟩:=d
   refine .inl ⟨v,?_,s,?_,rfl⟩
   ·rintro rfl
    simp_all
   grind [eS,Iq]
theorem Wu {p:Prop} (h:p:=by first|rfl|(simp only[D8,AV.ren,AV.give,D.un,Ef,D7,D6,Ap,Am,Ak,Ea,Ed,G2,F8,Ex,Gv,Ha,I4,Fi,Fy,E8,Pr,Md,Oa,Ep,Eo];first|done|rfl)):p:=h
theorem Nm (b:List UInt8) (N:b.length≤800000):aC 201 [.d (By false b)] (ko (X4 b)):=by
 have d:=Fc b 0 16 Aa
 have j:=fun x=>Ez (b:=b) (c:=0) (n:=16) (x:=x)
 have m:=F4 b 0 16
 unfold X4
 generalize Dn b 0 16=R at d j m⊢
 by_cases t:R.code≠0
 ·rw[Aj t]
  rw[lrA,Aj t] at d
  have E:((R.code:Int) !=0)=true:=by rw[Av];omega
  generalize R.code=c at d E
  generalize R.off=o at d
  refine acQ 60 Tryz.func201 rfl rfl fun _ _ _=> ?_
  (repeat'((conv=>whnf);first|refine zP ?_|refine Al d Wu ?_|refine zF ?_|exact zE))
 rw[Ai t]
 rw[lrA,Ai t] at d
 generalize R.l=l at d j m⊢
 by_cases B:l=[]
 ·subst B
  rw[Aj rfl]
  refine acQ 60 Tryz.func201 rfl rfl fun _ _ _=> ?_
  (repeat'((conv=>whnf);first|refine zY ?_|refine Al d Wu ?_|exact zE))
 rw[Ai B]
 have P:((l.length:Int)==0)=false:=by rw[An];intro h;exact B (Bn Aa)
 have s:gpL b l=Ps [] (gpL b (l.drop 0)):=by rw[GA,List.drop_zero]
 generalize M:gpL b l=q at s⊢
 refine acQ 60 Tryz.func201 rfl rfl fun _ _ _=> ?_
 (repeat'((conv=>whnf);first|refine zB ?_|refine Al d Wu ?_));(all_goals(conv=>whnf))
 refine F2 [.s 6 9 435] (fun z:Nat×List Gn=>z.1≤l.length∧z.2.length≤z.1∧q=Ps z.2 (gpL b (l.drop z.1))) (fun z=>l.length-z.1) (fun z=>⟨[(0,.d (By false b)),(3,.ptr 3 0),(6,Fy 6 9 435 cM z.2),(26,.d (Gw l)),(27,iv l.length),(28,iv z.1)],[(3,[iv 0,iv 0])],[(6,(z.2.length,9,435))]⟩) (0,[]) ⟨Ab,Ab,s⟩ leQ ?_
 rintro⟨i,A⟩ ⟨J,I,f⟩
 simp only at J I f
 by_cases w:i<l.length
 ·have F:decide ((i:Int)<l.length)=true:=Aq Aa
  obtain⟨x,v⟩:∃p,l[i]?=some p:=⟨_,Ev w⟩
  obtain⟨O,L,K⟩:=j x (F9 v)
  have H:=Kr b x
  have a:=Oz (elO b x) Aa
  obtain⟨k,r⟩:=T0 (elO b x)
  rw[Lt v] at f
  cases u:Ks (elO b x) with
  |none=>
   have y:q=(none,(U5 (elO b x)).1,x.at'+(U5 (elO b x)).2):=by rw[f,gpL,u];rfl
   rw[y]
   rw[u] at a
   generalize U5 (elO b x)=e at a k r
   obtain⟨c,o⟩:=e
   simp only at k r
   have a:aC 262 [.d (By false (elO b x))] (.tup [gnQ gz,erA c o]):=a
   have E:((c:Int) !=0)=true:=by rw[Av];omega
   unfold elO at a
   (repeat'((conv=>whnf);first|refine zP ?_|refine NIdx.tab (fun _=>rfl) v ?_|refine NSl.slice (x.at') (x.stop) ?_|refine Al a Wu ?_|refine zI ?_|refine zF ?_|exact zE))
  |some g=>
   rw[vE A u] at f
   rw[u] at a
   have a:aC 262 [.d (By false (elO b x))] (.tup [gnQ g,erA 0 0]):=a
   unfold elO at a
   (repeat'((conv=>whnf);first|refine zB ?_|refine NIdx.tab (fun _=>rfl) v ?_|refine NSl.slice (x.at') (x.stop) ?_|refine Al a Wu ?_|refine E4 cM g ?_|refine zI ?_));(all_goals(conv=>whnf))
   refine⟨(i+1,A++[g]),⟨by show i+1≤_;omega,Af,f⟩,by show l.length-(i+1)<l.length-i;omega,?_⟩
   exact leQ
 ·have F:decide ((i:Int)<l.length)=false:=Ao Aa
  obtain rfl:i=l.length:=Aa
  rw[List.drop_length,gpL] at f
  have C:q=(some A,0,0):=by rw[f];simp[Ps]
  subst C
  (repeat'((conv=>whnf);refine zN ?_));(all_goals(conv=>whnf))
  all_goals exact zE
end Go.Proofs.YtbedjionhmaafaaGreatDoor
