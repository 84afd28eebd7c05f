/- QN: Lca Lcb. No condition. -/
import Derived.Test.YtbedjionhmaafaaGreatDoorQM
set_option linter.all false
namespace Go.Proofs.YtbedjionhmaafaaGreatDoor
open Go.RowKit
set_option maxRecDepth 100000
set_option maxHeartbeats 16000000
variable {b:List UInt8}
theorem SP {p:Prop} (h:p:=by first|rfl|(simp only[D8,AV.ren,AV.give,D.un,Ef,D7,D6,Ap,Am,Ak,Ea,Ed,Ep,Eo];first|done|rfl)):p:=h
theorem Ht (b:List UInt8) (f t:Nat) (u:b.length<=1000000) (m:f<=t) (j:t<=b.length):aC 124 [.d (By false b),.agg [iv f,iv t]] (.d (Gw (J7 b f t))):=by
 obtain⟨d,h⟩:∃d,(b.drop f).take (t-f)=d:=⟨_,rfl⟩
 have r:d.length=t-f:=by rw[<-h,Ec,Eh];omega
 have g:=Hj d Aa
 have e:=Fa d
 unfold J7
 rw[h]
 generalize Em d=o at g e|-
 obtain⟨x,c,p⟩:=o
 rw[erR] at g
 simp only at g e|-
 have s:=e.2.2.2.2.2.2
 have n:=e.2.2.2.2.2.1
 have a:=V7 b (f+x.body) t Aa Aa j
 generalize F7 b (f+x.body) t=R at a|-
 obtain⟨l,k,q⟩:=R
 unfold lrA at a
 simp only at a|-
 clear e
 by_cases i:k≠0
 all_goals
  first|rw[Aj i] at a|- |rw[Ai i] at a|-
  refine acQ 32 Tryz.func124 rfl rfl fun _ _ _=> ?_
  (repeat'((conv=>whnf);first|refine Al g SP ?_|refine Al a SP ?_|(refine NSl.bytes f t d h ?_)|refine NInt.as (((f+x.body:Nat):Int)) ((by rw[Bl _ Aa];omega)) ?_|exact zE))
theorem Gc (l:List El) (n:Nat):aC 75 [.d (J5 false 6 elC l),iv n] (bv (Jr l n)):=by
 unfold Jr
 match l with
 |[]=>
  refine acQ 23 Tryz.func75 rfl rfl fun _ _ _=> ?_
  (repeat'((conv=>whnf);refine Ee ?_));(all_goals(conv=>whnf))
  all_goals exact zE
 |x::r=>
  have g:decide ((((x::r).length:Nat):Int)>0)=true:=Aq (by rw[D9];omega)
  have d:(x::r)[0]?=some x:=rfl
  have c:((x.c:Int)==2)=(x.c==2):=by rw[Bz,A9,A9];omega
  have e:((x.n:Int)==(n:Int))=(x.n==n):=by rw[Bz,A9,A9];omega
  simp only
  cases a:(x.c==2)
  ·rw[a] at c
   refine acQ 23 Tryz.func75 rfl rfl fun _ _ _=> ?_
   (repeat'((conv=>whnf);first|refine zP ?_|refine zN ?_|refine Ej ?_|refine Ee ?_|refine NIdx.tab (fun _=>rfl) d ?_|exact zE))
  ·rw[a] at c
   cases f:(x.n==n)
   all_goals
    rw[f] at e
    refine acQ 23 Tryz.func75 rfl rfl fun _ _ _=> ?_
    (repeat'((conv=>whnf);first|refine zP ?_|refine zN ?_|refine Ej ?_|refine Ee ?_|refine NIdx.tab (fun _=>rfl) d ?_));(all_goals(conv=>whnf))
    all_goals(refine E0 ?_;(repeat'(first|refine A1 ?_ ?_|exact rfl));(all_goals(conv=>whnf)))
    all_goals(try(rw[Cd];exact e))
theorem Vi (l:List El):Ef (List.flatMap elC l)=List.flatMap elC l:=(D.sl.inj (Eo l)).2.2.2
theorem Rw {B:Nat} {fp:Nat->Nat->Prop} {w:World} {bm:BM} {gt:Nat->Value} (a z:Nat):RA B fp w bm gt (.agg [iv a,iv z]) (rgV a z):=
 .agg [_,_] rfl fun i u v c d=>by
  match i with
  |0=>simp at c d;subst c d;exact .d (.v _)
  |1=>simp at c d;subst c d;exact .d (.v _)
theorem Jv {B:Nat} {fp:Nat->Nat->Prop} {w:World} {bm:BM} {gt:Nat->Value} {a z:Nat} {v:Value} (h:RA B fp w bm gt (.agg [iv a,iv z]) v):v=rgV a z:=by
 cases h with
 |agg vs e c=>
  match vs,e with
  |[p,q],_=>
   have d:=(c 0 _ _ rfl rfl).val
   have f:=(c 1 _ _ rfl rfl).val
   subst d f
   rfl
theorem Ko {a:Type} {f:a->List D} {sz:Nat} {x:a} {r:List a} {A:Nat->List D->Prop} (c:∀x,(f x).length=sz) (k:A r.length (r.flatMap f)):NSl ((x::r).flatMap f) (x::r).length sz 1 ((x::r).length:Nat) ((x::r).length:Nat) A:=
 NSl.tab c 1 (x::r).length r Ab k ⟨rfl,rfl,Ab,Int.le_refl _,Int.le_refl _⟩
theorem Iv {a:Type} {f:a->List D} {sz:Nat} {x:a} {r:List a} {A:List D->Prop} (c:∀x,(f x).length=sz) (k:A (f x)):NIdx ((x::r).flatMap f) (x::r).length sz 0 A:=
 NIdx.tab (l:=x::r) (i:=0) c rfl k
theorem Vj:∀(c:List (List UInt8)) (M:Lit->Option Value) (l:List El) (i:Nat) (d:List UInt8),c[i]?=some d->(J9 M (c.take (i+1)) l).1=Ro (J9 M (c.take i) l).1 d (l.drop i)
 |[],_,_,_,_,h=>by simp at h
 |a::c,M,l,0,d,h=>by
  simp at h
  subst h
  simp[J9]
 |a::c,M,l,i+1,d,h=>by
  rw[List.take_succ_cons,List.take_succ_cons,J9,J9,Vj c _ _ i d (by simpa using h)]
  cases l<;>simp
theorem Yf:∀(c:List (List UInt8)) (M:Lit->Option Value) (l:List El),(J9 M c l).2=l.drop c.length
 |[],_,_=>rfl
 |a::c,M,l=>by
  rw[J9,Yf c]
  cases l<;>simp
theorem Lk {l:List El} {n:Nat} (h:Jr l n=true):∃x r,l=x::r/\x.c=2/\x.n=n:=by
 cases l with
 |nil=>cases h
 |cons x r=>
  unfold Jr at h
  simp only[Et,A9] at h
  exact⟨x,r,rfl,h⟩
theorem W8 {d:List UInt8}:∀(c:List (List UInt8)) (M:Lit->Option Value) (l:List El),d∉c->(J9 M c l).1 (.string d)=M (.string d)
 |[],_,_,_=>rfl
 |a::c,M,l,h=>by
  rw[J9,W8 c _ _ fun k=>h (Be _ k)]
  exact lE (fun k=>h (by rw[k];exact Bd)) l
theorem CI (l:List El):Nq l (.string Ia)=none:=by
 rw[Nq,W8 _ _ _ Ae]
theorem W9 (b:List UInt8) (f t:Nat) (h:t<=b.length):(J7 b f t).length<=b.length:=by
 unfold J7
 split
 ·exact Nat.zero_le _
 ·refine Bi (Tn h _ _) ?_
  omega
def Qy (b:List UInt8) (M:Lit->Option Value) (l:List El) (ex:List Ext):Lit->Option Value:=
 let i:=Pb (Jr l 1) M (Ro M Sc l) l
 let j:=Pb (Jr i.2 2) i.1 (Ro i.1 Sd i.2) i.2
 let x:=Pb (Jr j.2 3) j.1 (Za b j.1 Ia j.2) j.2
 qO b x.1 ex
theorem iy {c:Cer} {d a:List El} (h:Jr a 0=false):Vc b c d a=Qy b (J9 (Nq d) six a).1 (a.drop 6) c.t.ext:=by
 unfold Vc Qy
 simp only[h,Pb,Ck,if_false,Yf]
 rfl
theorem iz {c:Cer} {a r q:List El} {x w:El} (h:Jr (x::r) 0=true) (d:J7 b x.at' x.stop=w::q):Vc b c a (x::r)=Qy b (J9 (F6 (Nq a) (.string Zb) (rgV w.at' w.stop)) six r).1 (r.drop 6) c.t.ext:=by
 unfold Vc Qy
 simp only[h,Pb,if_true,Yf,Za,d,Ro,List.tail_cons]
 rfl
theorem Xa {M:Lit->Option Value} {l:List Ext} (h:M (.string Ia)=none):qO b M l=M:=by
 unfold qO;rw[h]
theorem Xb {M:Lit->Option Value} {l:List Ext} {a z:Nat} (h:M (.string Ia)=some (rgV a z)):qO b M l=Pa M (J7 b a z) l:=by
 unfold qO;rw[h];rfl
theorem wV:∀s∈six,s.length<=100:=Ae
theorem F5 {p:Prop} (h:p:=by first|rfl|(simp only[D8,AV.ren,AV.give,D.un,Ef,D7,D6,Ap,Am,Ak,Ea,Ed,Ep,Eo,Ex,Fi,Ho,Ib,Hm,naA,seA,AV.dull,I5,single,Vi];first|done|rfl)):p:=h
theorem ah (b:List UInt8) (c:Cer) (X:b.length<=6000) (a f e:El) (d:List El) (M:aC 5 [.d (By false b)] (.tup [ceQ c,erA 0 0])) (O:J7 b 0 b.length=[a,f,e]) (K:J7 b a.at' a.stop=d) (A:a.at'<=a.stop/\a.stop<=b.length) (C:Jr d 0=false) (U:d.length=6):
 Es Tryz.prog 26 [.d (By false b)] (fun r=>∃B m n,r= .tup [Kl Tryz.prog 9 B m n (Vc b c [a,f,e] d),erA 0 0]):=by
 have F:=Ht b 0 b.length Aa Aa Aa
 have H:=Ht b a.at' a.stop Aa A.1 A.2
 rw[O] at F
 rw[K] at H
 have R:∀z B fp w bm gt,RA B fp w bm gt (.agg [iv a.at',iv a.stop]) ((F6 (F6 (F6 (fun _=>none) (.string IE) (rgV a.at' a.stop)) (.string IF) (rgV f.at' f.stop)) (.string IG) (rgV e.at' e.stop) (.string IE)).getD z):=fun z B fp w bm gt=>by
  rw[Ft Ae,Ft Ae,Hl]
  exact Rw _ _
 have x:=Gc d 0
 rw[C] at x
 generalize J:Vc b c [a,f,e] d=MM
 refine acY 64 [74,77,76,78] Tryz.func26 rfl rfl fun v _ _=> ?_
 (repeat'((conv=>whnf);first|refine Ee ?_|refine Al M F5 ?_|((refine NStep.some (Ku 9 rfl rfl (ltN rfl)) ?_;rintro _ ⟨m,rfl⟩))));(all_goals(conv=>whnf))
 refine G6 ⟨[(0,.d (By false b)),(3,.ptr 3 0),(4,.ptr 4 0),(6,Kl Tryz.prog 9 v.heap.size m (3) (Nq [a,f,e])),(22,.d (Gw d))],[(3,[iv 0,iv 0]),(4,ceC true gX Px c)],[]⟩ ?_ ?_
 ·(repeat'((conv=>whnf);first|refine Ee ?_|refine inY 100 24 [74,77,76,78] Tryz.func74 rfl rfl rfl rfl fun q=> ?_|refine inY 200 23 [74,77,76,78] Tryz.func77 rfl rfl rfl rfl fun q=> ?_|refine Al F F5 ?_|refine Al H F5 ?_|(refine Fx (Fk [1000000,2000006] rfl rfl rfl rfl rfl (fun _ _ _ _ _ _ h=>Jv h) (fun s g=>by simp only[Bj,Cb,or_false] at g;rcases g with rfl|rfl<;>rfl) (Eg.ty rfl).u E2 (Fq _ Ae) Ae) ?_)|(refine Cs (Km rfl rfl (ltN rfl) rfl rfl (Eg.ty rfl).u E2 (Fq _ Ae) (Eg.ty rfl).zero (R _)) ?_)|(refine Iv (fun _=>rfl) ?_)|(refine Ko (fun _=>rfl) ?_)|refine zF ?_));(all_goals(conv=>whnf))
  all_goals exact J6
 (repeat'((conv=>whnf);first|refine Ee ?_|refine Al x F5 ?_));(all_goals(conv=>whnf))
 refine Fh (fun i:Nat=>i<=6) (fun i=>6-i) (fun i:Nat=>⟨[(0,.d (By false b)),(3,.ptr 3 0),(4,.ptr 4 0),(6,Kl Tryz.prog 9 v.heap.size m (3+i) ((J9 (Nq [a,f,e]) (six.take i) d).1)),(7,.d (Gw (d.drop i))),(29,Fy 29 1 9 U0 six),(30,iv 6),(31,iv i)],[(3,[iv 0,iv 0]),(4,ceC true gX Px c)],[(29,(six.length,1,9))]⟩) 0 Aa leQ ?_
 rintro i W
 by_cases u:i<6
 ·have N:decide ((i:Int)<6)=true:=Aq Aa
  obtain⟨k,t⟩:∃p,six[i]?=some p:=⟨_,Ev u⟩
  have o:k.length<=1000000000:=Bi (wV k (F9 t)) Ae
  obtain⟨y,I⟩:∃y,d.drop i=y::d.drop (i+1):=⟨_,A5 Aa⟩
  have g:=Vj six (Nq [a,f,e]) d i k t
  rw[I] at g
  simp only[Ro] at g
  (repeat'((conv=>whnf);first|refine zP ?_|refine zN ?_|refine Ej ?_|refine Ee ?_|(rw[I])|refine NIdx.tab (fun _=>rfl) t ?_|refine inY 200 23 [74,77,76,78] Tryz.func77 rfl rfl rfl rfl fun q=> ?_|(refine Iv (fun _=>rfl) ?_)|(refine Ko (fun _=>rfl) ?_)|(refine Fx (Fk [1000006] rfl rfl rfl rfl rfl (fun _ _ _ _ _ _ h=>Jv h) (fun s g=>by obtain rfl:=Bh.1 g;rfl) (Eg.ty rfl).u E2 (Fq k o) (by show _<9223372036854775807;omega)) ?_)|(with_reducible refine NInt.i64 ?_)|refine zF ?_));(all_goals(conv=>whnf))
  refine⟨i+1,Aa,Aa,?_⟩
  rw[g]
  exact leQ
 ·have N:decide ((i:Int)<6)=false:=Ao Aa
  obtain rfl:i=6:=Aa
  have E:d.drop 6=[]:=Bp Aa
  rw[E]
  have P:=Gc [] 1
  have T:=Gc [] 2
  have L:=Gc [] 3
  have l:(J9 (Nq [a,f,e]) six d).1 (.string Ia)=none:=by rw[W8 _ _ _ Ae];exact CI _
  have j:(J9 (Nq [a,f,e]) six d).1=MM:=by
   rw[iy C,E] at J
   rw[<-J]
   unfold Qy
   simp only[Jr,Pb,Ck,if_false]
   rw[Xa l]
  rw[show six.take 6=six from rfl]
  rw[j] at l
  rw[j]
  have Q:∀B fp w bm gt,RA B fp w bm gt (.agg [iv (0:Nat),iv (0:Nat)]) ((MM (.string Ia)).getD (rgV 0 0)):=fun B fp w bm gt=>by rw[l];exact Rw 0 0
  have V:(!(MM (.string Ia)).isSome)=true:=by rw[l];rfl
  (repeat'((conv=>whnf);first|refine zP ?_|refine zN ?_|refine Ej ?_|refine Ee ?_|refine Al P rfl ?_|refine Al T rfl ?_|refine Al L rfl ?_|refine inY 400 43 [74,77,76,78] Tryz.func78 rfl rfl rfl rfl fun q=> ?_|(refine Cs (Ja rfl rfl (ltN rfl) rfl rfl (Eg.ty rfl).u E2 (Fq _ Ae) (Eg.ty rfl).zero Q) ?_)));(all_goals(conv=>whnf))
  all_goals exact Gf rfl ⟨_,_,_,rfl⟩
theorem ai (b:List UInt8) (c:Cer) (hb:b.length<=6000) (J x1 x2:El) (l1:List El) (hP:aC 5 [.d (By false b)] (.tup [ceQ c,erA 0 0])) (h0:J7 b 0 b.length=[J,x1,x2]) (h1:J7 b J.at' J.stop=l1) (hx:J.at'<=J.stop/\J.stop<=b.length) (x:El) (W:List El) (w0:El) (q0:List El) (hc:l1=x::W) (hq:Jr l1 0=true) (hq0:J7 b x.at' x.stop=w0::q0) (hxb:x.at'<=x.stop/\x.stop<=b.length) (hn:6<=W.length) (hl:∀y∈W,y.at'<=y.stop/\y.stop<=b.length) (hE:∀y∈W,y.c=2->y.n=3->∃w q,J7 b y.at' y.stop=w::q/\w.at'<=w.stop/\w.stop<=b.length) (he:c.t.ext.length<=1000000/\∀y∈c.t.ext,y.oid.length<=4000000):
 Es Tryz.prog 26 [.d (By false b)] (fun r=>∃B m n,r= .tup [Kl Tryz.prog 9 B m n (Vc b c [J,x1,x2] l1),erA 0 0]):=by
 have hI:=Ht b 0 b.length Aa Aa Aa
 have hJ:=Ht b J.at' J.stop Aa hx.1 hx.2
 rw[h0] at hI
 rw[h1] at hJ
 have hT:∀z B fp w bm gt,RA B fp w bm gt (.agg [iv J.at',iv J.stop]) ((F6 (F6 (F6 (fun _=>none) (.string IE) (rgV J.at' J.stop)) (.string IF) (rgV x1.at' x1.stop)) (.string IG) (rgV x2.at' x2.stop) (.string IE)).getD z):=fun z B fp w bm gt=>by
  rw[Ft Ae,Ft Ae,Hl]
  exact Rw _ _
 have hV:=Gc l1 0
 rw[hq] at hV
 generalize g:Vc b c [J,x1,x2] l1=MM
 refine acY 64 [74,77,76,78] Tryz.func26 rfl rfl fun W0 _ _=> ?_
 (repeat'((conv=>whnf);first|refine Ee ?_|refine Al hP F5 ?_|((refine NStep.some (Ku 9 rfl rfl (ltN rfl)) ?_;rintro _ ⟨m,rfl⟩))));(all_goals(conv=>whnf))
 refine G6 ⟨[(0,.d (By false b)),(3,.ptr 3 0),(4,.ptr 4 0),(6,Kl Tryz.prog 9 W0.heap.size m (3) (Nq [J,x1,x2])),(22,.d (Gw l1))],[(3,[iv 0,iv 0]),(4,ceC true gX Px c)],[]⟩ ?_ ?_
 ·(repeat'((conv=>whnf);first|refine Ee ?_|refine inY 100 24 [74,77,76,78] Tryz.func74 rfl rfl rfl rfl fun C=> ?_|refine inY 200 23 [74,77,76,78] Tryz.func77 rfl rfl rfl rfl fun C=> ?_|refine Al hI F5 ?_|refine Al hJ F5 ?_|(refine Fx (Fk [1000000,2000006] rfl rfl rfl rfl rfl (fun _ _ _ _ _ _ h=>Jv h) (fun s f=>by simp only[Bj,Cb,or_false] at f;rcases f with rfl|rfl<;>rfl) (Eg.ty rfl).u E2 (Fq _ Ae) Ae) ?_)|(refine Cs (Km rfl rfl (ltN rfl) rfl rfl (Eg.ty rfl).u E2 (Fq _ Ae) (Eg.ty rfl).zero (hT _)) ?_)|(refine Iv (fun _=>rfl) ?_)|(refine Ko (fun _=>rfl) ?_)|refine zF ?_));(all_goals(conv=>whnf))
  all_goals exact J6
 have Q:=Ht b x.at' x.stop Aa hxb.1 hxb.2
 rw[hq0] at Q
 subst hc
 (repeat'((conv=>whnf);first|refine Ej ?_|refine Ee ?_|refine Al hV F5 ?_|refine inY 300 25 [74,77,76,78] Tryz.func76 rfl rfl rfl rfl fun C=> ?_|refine inY 200 23 [74,77,76,78] Tryz.func77 rfl rfl rfl rfl fun C=> ?_|refine Al Q F5 ?_|(refine Fx (Fk [1000000,2000006] rfl rfl rfl rfl rfl (fun _ _ _ _ _ _ h=>Jv h) (fun s f=>by simp only[Bj,Cb,or_false] at f;rcases f with rfl|rfl<;>rfl) (Eg.ty rfl).u E2 (Fq _ Ae) Ae) ?_)|(refine Iv (fun _=>rfl) ?_)|(refine Ko (fun _=>rfl) ?_)|refine zF ?_));(all_goals(conv=>whnf))
 refine Fh (fun i:Nat=>i<=6) (fun i=>6-i) (fun i:Nat=>⟨[(0,.d (By false b)),(3,.ptr 3 0),(4,.ptr 4 0),(6,Kl Tryz.prog 9 W0.heap.size m (4+i) ((J9 (F6 (Nq [J,x1,x2]) (.string Zb) (rgV w0.at' w0.stop)) (six.take i) W).1)),(7,.d (Gw (W.drop i))),(29,Fy 29 1 9 U0 six),(30,iv 6),(31,iv i)],[(3,[iv 0,iv 0]),(4,ceC true gX Px c)],[(29,(six.length,1,9))]⟩) 0 Aa leQ ?_
 rintro i hi
 by_cases hil:i<6
 ·have gi:decide ((i:Int)<6)=true:=Aq Aa
  obtain⟨nm,hg⟩:∃p,six[i]?=some p:=⟨_,Ev hil⟩
  have hnm:nm.length<=1000000000:=Bi (wV nm (F9 hg)) Ae
  obtain⟨y,hy⟩:∃y,W.drop i=y::W.drop (i+1):=⟨_,A5 Aa⟩
  have f:=Vj six (F6 (Nq [J,x1,x2]) (.string Zb) (rgV w0.at' w0.stop)) W i nm hg
  rw[hy] at f
  simp only[Ro] at f
  (repeat'((conv=>whnf);first|refine zP ?_|refine zN ?_|refine Ej ?_|refine Ee ?_|(rw[hy])|refine NIdx.tab (fun _=>rfl) hg ?_|refine inY 200 23 [74,77,76,78] Tryz.func77 rfl rfl rfl rfl fun C=> ?_|(refine Iv (fun _=>rfl) ?_)|(refine Ko (fun _=>rfl) ?_)|(refine Fx (Fk [1000006] rfl rfl rfl rfl rfl (fun _ _ _ _ _ _ h=>Jv h) (fun s f=>by obtain rfl:=Bh.1 f;rfl) (Eg.ty rfl).u E2 (Fq nm hnm) (by show _<9223372036854775807;omega)) ?_)|(with_reducible refine NInt.i64 ?_)|refine zF ?_));(all_goals(conv=>whnf))
  refine⟨i+1,Aa,Aa,?_⟩
  rw[f]
  exact leQ
 ·have gi:decide ((i:Int)<6)=false:=Ao Aa
  obtain rfl:i=6:=Aa
  rw[iz hq hq0] at g
  have v:(J9 (F6 (Nq [J,x1,x2]) (.string Zb) (rgV w0.at' w0.stop)) six W).1 (.string Ia)=none:=by rw[W8 _ _ _ Ae,Ft Ae];exact CI _
  rw[show six.take 6=six from rfl]
  have X:∀y∈W.drop 6,y.at'<=y.stop/\y.stop<=b.length:=fun y hy=>hl y (List.mem_of_mem_drop hy)
  have hE3:∀y∈W.drop 6,y.c=2->y.n=3->∃w q,J7 b y.at' y.stop=w::q/\w.at'<=w.stop/\w.stop<=b.length:=fun y hy=>hE y (List.mem_of_mem_drop hy)
  generalize (J9 (F6 (Nq [J,x1,x2]) (.string Zb) (rgV w0.at' w0.stop)) six W).1=M6 at g v|-
  generalize W.drop 6=l3 at g X hE3|-
  clear hP hI hJ hT hV Q hE hl
  cases u:Jr l3 1
  ·have Y:=Gc l3 1
   rw[u] at Y
   cases j:Jr l3 2
   ·have U:=Gc l3 2
    rw[j] at U
    cases k3:Jr l3 3
    ·have H:=Gc l3 3
     rw[k3] at H
     have A:(M6) (.string Ia)=none:=by
      exact v
     unfold Qy at g
     simp only[Pb,u,j,k3,if_true,Ck,if_false,List.tail_cons,Ro] at g
     rw[Xa A] at g
     subst g
     have I:∀B fp w bm gt,RA B fp w bm gt (.agg [iv (0:Nat),iv (0:Nat)]) (((M6) (.string Ia)).getD (rgV 0 0)):=fun B fp w bm gt=>by rw[A];exact Rw 0 0
     have Z:(!((M6) (.string Ia)).isSome)=true:=by rw[A];rfl
     (repeat'((conv=>whnf);first|refine zP ?_|refine zN ?_|refine Ej ?_|refine Ee ?_|refine Al Y F5 ?_|refine Al U F5 ?_|refine Al H F5 ?_|refine inY 400 43 [74,77,76,78] Tryz.func78 rfl rfl rfl rfl fun C=> ?_|(refine Cs (Ja rfl rfl (ltN rfl) rfl rfl (Eg.ty rfl).u E2 (Fq _ Ae) (Eg.ty rfl).zero I) ?_)));(all_goals(conv=>whnf))
     all_goals exact Gf rfl ⟨_,_,_,rfl⟩
    ·obtain⟨F,r3,rfl,c3,n3⟩:=Lk k3
     have H:=Gc (F::r3) 3
     rw[k3] at H
     have A:(M6) (.string Ia)=none:=by
      exact v
     unfold Qy at g
     obtain⟨w,q,hw,w1,w2⟩:=hE3 F Ab c3 n3
     obtain⟨p1,p2⟩:=X F Ab
     simp only[Pb,u,j,k3,if_true,Ck,if_false,List.tail_cons,Ro,Za,hw] at g
     rw[Xb (Hl _ _ _)] at g
     have Q:=Ht b F.at' F.stop Aa p1 p2
     rw[hw] at Q
     have hL:=Ht b w.at' w.stop Aa w1 w2
     have lL:=W9 b w.at' w.stop w2
     generalize J7 b w.at' w.stop=L at hL g lL
     have I:∀B fp w' bm gt,RA B fp w' bm gt (.agg [iv w.at',iv w.stop]) (((F6 (M6) (.string Ia) (rgV w.at' w.stop)) (.string Ia)).getD (rgV 0 0)):=fun B fp w' bm gt=>by rw[Hl];exact Rw _ _
     have Z:(!((F6 (M6) (.string Ia) (rgV w.at' w.stop)) (.string Ia)).isSome)=false:=by rw[Hl];rfl
     (repeat'((conv=>whnf);first|refine zP ?_|refine zN ?_|refine Ej ?_|refine Ee ?_|refine Al Y F5 ?_|refine Al U F5 ?_|refine Al H F5 ?_|refine inY 200 23 [74,77,76,78] Tryz.func77 rfl rfl rfl rfl fun C=> ?_|(refine Iv (fun _=>rfl) ?_)|(refine Ko (fun _=>rfl) ?_)|refine inY 400 43 [74,77,76,78] Tryz.func78 rfl rfl rfl rfl fun C=> ?_|(refine Cs (Ja rfl rfl (ltN rfl) rfl rfl (Eg.ty rfl).u E2 (Fq _ Ae) (Eg.ty rfl).zero I) ?_)|refine inY 300 25 [74,77,76,78] Tryz.func76 rfl rfl rfl rfl fun C=> ?_|refine Al Q F5 ?_|refine Al hL F5 ?_|(refine Fx (Fk [1000000,2000006] rfl rfl rfl rfl rfl (fun _ _ _ _ _ _ h=>Jv h) (fun s f=>by simp only[Bj,Cb,or_false] at f;rcases f with rfl|rfl<;>rfl) (Eg.ty rfl).u E2 (Fq _ Ae) Ae) ?_)|refine zF ?_));(all_goals(conv=>whnf))
     clear I Z A v
     generalize F6 (M6) (.string Ia) (rgV w.at' w.stop)=M9 at g|-
     refine Fh (fun z:Nat×(Lit->Option Value)×Nat=>z.1<=L.length/\z.2.2<=20+z.1/\Pa z.2.1 (L.drop z.1) (c.t.ext.drop z.1)=MM) (fun z=>L.length-z.1) (fun z:Nat×(Lit->Option Value)×Nat=>⟨[(0,Kl Tryz.prog 9 W0.heap.size m (z.2.2) (z.2.1)),(2,.d (Px c.t.ext)),(19,.d (Gw L)),(20,iv L.length),(21,iv z.1),(1000003,.ptr 3 0),(1000006,Kl Tryz.prog 9 W0.heap.size m (z.2.2) (z.2.1))],[(3,[iv 0,iv 0])],[]⟩) (0,M9,11) ⟨Ab,Ab,g⟩ leQ ?_
     rintro⟨a,N,n'⟩ ⟨T,E,d⟩
     simp only at T E d
     by_cases e:a<L.length
     ·have O:decide ((a:Int)<(L.length:Int))=true:=Aq Aa
      obtain⟨R,o⟩:∃p,L[a]?=some p:=⟨_,Ev e⟩
      have M:L.drop a=R::L.drop (a+1):=by
       obtain⟨u,j⟩:=Ew.1 o
       rw[<-j];exact A5 u
      rw[M] at d
      by_cases P:a<c.t.ext.length
      ·have ge:decide ((a:Int)<(c.t.ext.length:Int))=true:=Aq Aa
       obtain⟨K,k⟩:∃p,c.t.ext[a]?=some p:=⟨_,Ev P⟩
       have V:c.t.ext.drop a=K::c.t.ext.drop (a+1):=by
        obtain⟨u,j⟩:=Ew.1 k
        rw[<-j];exact A5 u
       have ho:=he.2 K (F9 k)
       have hk:(Rp++K.oid).length<=1000000000:=by rw[En];have:Rp.length=10:=rfl;omega
       rw[V] at d
       simp only[Pa] at d
       (repeat'((conv=>whnf);first|refine zP ?_|refine NIdx.tab (fun _=>rfl) o ?_|refine NIdx.tab (fun _=>rfl) k ?_|(refine Fx (Fk [0,1000006] rfl rfl rfl rfl rfl (fun _ _ _ _ _ _ h=>Jv h) (fun s f=>by simp only[Bj,Cb,or_false] at f;rcases f with rfl|rfl<;>rfl) (Eg.ty rfl).u E2 (Fq _ hk) (Dd E (by unfold maxLen;omega))) ?_)|(with_reducible refine NInt.i64 ?_)|refine zF ?_|refine Fv (by first|decide|omega|(simp only[D9,Ax];omega)) ?_));(all_goals(conv=>whnf))
       refine⟨(a+1,F6 N (.string (Rp++K.oid)) (rgV R.at' R.stop),n'+1),⟨e,by simp only;omega,d⟩,by simp only;omega,?_⟩
       exact leQ
      ·have ge:decide ((a:Int)<(c.t.ext.length:Int))=false:=Ao Aa
       rw[Bp (show c.t.ext.length<=a by omega)] at d
       simp only[Pa] at d
       (repeat'((conv=>whnf);first|refine zP ?_|refine zN ?_|refine Ej ?_|refine Ee ?_|refine NIdx.tab (fun _=>rfl) o ?_|(with_reducible refine NInt.i64 ?_)));(all_goals(conv=>whnf))
       refine⟨(a+1,N,n'),⟨e,by simp only;omega,by rw[Bp (show c.t.ext.length<=a+1 by omega)];rw[<-d];cases L.drop (a+1)<;>rfl⟩,by simp only;omega,?_⟩
       exact leQ
     ·have O:decide ((a:Int)<(L.length:Int))=false:=Ao Aa
      rw[Bp Aa] at d
      simp only[Pa] at d
      subst d
      (repeat'((conv=>whnf);refine zN ?_));(all_goals(conv=>whnf))
      all_goals exact Gf rfl ⟨_,_,_,rfl⟩
   ·obtain⟨l,r2,rfl,c2,n2⟩:=Lk j
    have U:=Gc (l::r2) 2
    rw[j] at U
    cases k3:Jr r2 3
    ·have H:=Gc r2 3
     rw[k3] at H
     have A:(F6 (M6) (.string Sd) (rgV l.at' l.stop)) (.string Ia)=none:=by
      rw[Ft Ae];exact v
     unfold Qy at g
     simp only[Pb,u,j,k3,if_true,Ck,if_false,List.tail_cons,Ro] at g
     rw[Xa A] at g
     subst g
     have I:∀B fp w bm gt,RA B fp w bm gt (.agg [iv (0:Nat),iv (0:Nat)]) (((F6 (M6) (.string Sd) (rgV l.at' l.stop)) (.string Ia)).getD (rgV 0 0)):=fun B fp w bm gt=>by rw[A];exact Rw 0 0
     have Z:(!((F6 (M6) (.string Sd) (rgV l.at' l.stop)) (.string Ia)).isSome)=true:=by rw[A];rfl
     (repeat'((conv=>whnf);first|refine zP ?_|refine zN ?_|refine Ej ?_|refine Ee ?_|refine Al Y F5 ?_|refine Al U F5 ?_|refine Al H F5 ?_|refine inY 200 23 [74,77,76,78] Tryz.func77 rfl rfl rfl rfl fun C=> ?_|(refine Iv (fun _=>rfl) ?_)|(refine Ko (fun _=>rfl) ?_)|(refine Fx (Fk [1000006] rfl rfl rfl rfl rfl (fun _ _ _ _ _ _ h=>Jv h) (fun s f=>by obtain rfl:=Bh.1 f;rfl) (Eg.ty rfl).u E2 (Fq _ Ae) Ae) ?_)|refine inY 400 43 [74,77,76,78] Tryz.func78 rfl rfl rfl rfl fun C=> ?_|(refine Cs (Ja rfl rfl (ltN rfl) rfl rfl (Eg.ty rfl).u E2 (Fq _ Ae) (Eg.ty rfl).zero I) ?_)|refine zF ?_));(all_goals(conv=>whnf))
     all_goals exact Gf rfl ⟨_,_,_,rfl⟩
    ·obtain⟨F,r3,rfl,c3,n3⟩:=Lk k3
     have H:=Gc (F::r3) 3
     rw[k3] at H
     have A:(F6 (M6) (.string Sd) (rgV l.at' l.stop)) (.string Ia)=none:=by
      rw[Ft Ae];exact v
     unfold Qy at g
     obtain⟨w,q,hw,w1,w2⟩:=hE3 F Ab c3 n3
     obtain⟨p1,p2⟩:=X F Ab
     simp only[Pb,u,j,k3,if_true,Ck,if_false,List.tail_cons,Ro,Za,hw] at g
     rw[Xb (Hl _ _ _)] at g
     have Q:=Ht b F.at' F.stop Aa p1 p2
     rw[hw] at Q
     have hL:=Ht b w.at' w.stop Aa w1 w2
     have lL:=W9 b w.at' w.stop w2
     generalize J7 b w.at' w.stop=L at hL g lL
     have I:∀B fp w' bm gt,RA B fp w' bm gt (.agg [iv w.at',iv w.stop]) (((F6 (F6 (M6) (.string Sd) (rgV l.at' l.stop)) (.string Ia) (rgV w.at' w.stop)) (.string Ia)).getD (rgV 0 0)):=fun B fp w' bm gt=>by rw[Hl];exact Rw _ _
     have Z:(!((F6 (F6 (M6) (.string Sd) (rgV l.at' l.stop)) (.string Ia) (rgV w.at' w.stop)) (.string Ia)).isSome)=false:=by rw[Hl];rfl
     (repeat'((conv=>whnf);first|refine zP ?_|refine zN ?_|refine Ej ?_|refine Ee ?_|refine Al Y F5 ?_|refine Al U F5 ?_|refine Al H F5 ?_|refine inY 200 23 [74,77,76,78] Tryz.func77 rfl rfl rfl rfl fun C=> ?_|(refine Iv (fun _=>rfl) ?_)|(refine Ko (fun _=>rfl) ?_)|(refine Fx (Fk [1000006] rfl rfl rfl rfl rfl (fun _ _ _ _ _ _ h=>Jv h) (fun s f=>by obtain rfl:=Bh.1 f;rfl) (Eg.ty rfl).u E2 (Fq _ Ae) Ae) ?_)|refine inY 400 43 [74,77,76,78] Tryz.func78 rfl rfl rfl rfl fun C=> ?_|(refine Cs (Ja rfl rfl (ltN rfl) rfl rfl (Eg.ty rfl).u E2 (Fq _ Ae) (Eg.ty rfl).zero I) ?_)|refine inY 300 25 [74,77,76,78] Tryz.func76 rfl rfl rfl rfl fun C=> ?_|refine Al Q F5 ?_|refine Al hL F5 ?_|(refine Fx (Fk [1000000,2000006] rfl rfl rfl rfl rfl (fun _ _ _ _ _ _ h=>Jv h) (fun s f=>by simp only[Bj,Cb,or_false] at f;rcases f with rfl|rfl<;>rfl) (Eg.ty rfl).u E2 (Fq _ Ae) Ae) ?_)|refine zF ?_));(all_goals(conv=>whnf))
     clear I Z A v
     generalize F6 (F6 (M6) (.string Sd) (rgV l.at' l.stop)) (.string Ia) (rgV w.at' w.stop)=M9 at g|-
     refine Fh (fun z:Nat×(Lit->Option Value)×Nat=>z.1<=L.length/\z.2.2<=20+z.1/\Pa z.2.1 (L.drop z.1) (c.t.ext.drop z.1)=MM) (fun z=>L.length-z.1) (fun z:Nat×(Lit->Option Value)×Nat=>⟨[(0,Kl Tryz.prog 9 W0.heap.size m (z.2.2) (z.2.1)),(2,.d (Px c.t.ext)),(19,.d (Gw L)),(20,iv L.length),(21,iv z.1),(1000003,.ptr 3 0),(1000006,Kl Tryz.prog 9 W0.heap.size m (z.2.2) (z.2.1))],[(3,[iv 0,iv 0])],[]⟩) (0,M9,12) ⟨Ab,Ab,g⟩ leQ ?_
     rintro⟨a,N,n'⟩ ⟨T,E,d⟩
     simp only at T E d
     by_cases e:a<L.length
     ·have O:decide ((a:Int)<(L.length:Int))=true:=Aq Aa
      obtain⟨R,o⟩:∃p,L[a]?=some p:=⟨_,Ev e⟩
      have M:L.drop a=R::L.drop (a+1):=by
       obtain⟨u,j⟩:=Ew.1 o
       rw[<-j];exact A5 u
      rw[M] at d
      by_cases P:a<c.t.ext.length
      ·have ge:decide ((a:Int)<(c.t.ext.length:Int))=true:=Aq Aa
       obtain⟨K,k⟩:∃p,c.t.ext[a]?=some p:=⟨_,Ev P⟩
       have V:c.t.ext.drop a=K::c.t.ext.drop (a+1):=by
        obtain⟨u,j⟩:=Ew.1 k
        rw[<-j];exact A5 u
       have ho:=he.2 K (F9 k)
       have hk:(Rp++K.oid).length<=1000000000:=by rw[En];have:Rp.length=10:=rfl;omega
       rw[V] at d
       simp only[Pa] at d
       (repeat'((conv=>whnf);first|refine zP ?_|refine NIdx.tab (fun _=>rfl) o ?_|refine NIdx.tab (fun _=>rfl) k ?_|(refine Fx (Fk [0,1000006] rfl rfl rfl rfl rfl (fun _ _ _ _ _ _ h=>Jv h) (fun s f=>by simp only[Bj,Cb,or_false] at f;rcases f with rfl|rfl<;>rfl) (Eg.ty rfl).u E2 (Fq _ hk) (Dd E (by unfold maxLen;omega))) ?_)|(with_reducible refine NInt.i64 ?_)|refine zF ?_|refine Fv (by first|decide|omega|(simp only[D9,Ax];omega)) ?_));(all_goals(conv=>whnf))
       refine⟨(a+1,F6 N (.string (Rp++K.oid)) (rgV R.at' R.stop),n'+1),⟨e,by simp only;omega,d⟩,by simp only;omega,?_⟩
       exact leQ
      ·have ge:decide ((a:Int)<(c.t.ext.length:Int))=false:=Ao Aa
       rw[Bp (show c.t.ext.length<=a by omega)] at d
       simp only[Pa] at d
       (repeat'((conv=>whnf);first|refine zP ?_|refine zN ?_|refine Ej ?_|refine Ee ?_|refine NIdx.tab (fun _=>rfl) o ?_|(with_reducible refine NInt.i64 ?_)));(all_goals(conv=>whnf))
       refine⟨(a+1,N,n'),⟨e,by simp only;omega,by rw[Bp (show c.t.ext.length<=a+1 by omega)];rw[<-d];cases L.drop (a+1)<;>rfl⟩,by simp only;omega,?_⟩
       exact leQ
     ·have O:decide ((a:Int)<(L.length:Int))=false:=Ao Aa
      rw[Bp Aa] at d
      simp only[Pa] at d
      subst d
      (repeat'((conv=>whnf);refine zN ?_));(all_goals(conv=>whnf))
      all_goals exact Gf rfl ⟨_,_,_,rfl⟩
  ·obtain⟨t,r1,rfl,c1,n1⟩:=Lk u
   have Y:=Gc (t::r1) 1
   rw[u] at Y
   cases j:Jr r1 2
   ·have U:=Gc r1 2
    rw[j] at U
    cases k3:Jr r1 3
    ·have H:=Gc r1 3
     rw[k3] at H
     have A:(F6 (M6) (.string Sc) (rgV t.at' t.stop)) (.string Ia)=none:=by
      rw[Ft Ae];exact v
     unfold Qy at g
     simp only[Pb,u,j,k3,if_true,Ck,if_false,List.tail_cons,Ro] at g
     rw[Xa A] at g
     subst g
     have I:∀B fp w bm gt,RA B fp w bm gt (.agg [iv (0:Nat),iv (0:Nat)]) (((F6 (M6) (.string Sc) (rgV t.at' t.stop)) (.string Ia)).getD (rgV 0 0)):=fun B fp w bm gt=>by rw[A];exact Rw 0 0
     have Z:(!((F6 (M6) (.string Sc) (rgV t.at' t.stop)) (.string Ia)).isSome)=true:=by rw[A];rfl
     (repeat'((conv=>whnf);first|refine zP ?_|refine zN ?_|refine Ej ?_|refine Ee ?_|refine Al Y F5 ?_|refine Al U F5 ?_|refine Al H F5 ?_|refine inY 200 23 [74,77,76,78] Tryz.func77 rfl rfl rfl rfl fun C=> ?_|(refine Iv (fun _=>rfl) ?_)|(refine Ko (fun _=>rfl) ?_)|(refine Fx (Fk [1000006] rfl rfl rfl rfl rfl (fun _ _ _ _ _ _ h=>Jv h) (fun s f=>by obtain rfl:=Bh.1 f;rfl) (Eg.ty rfl).u E2 (Fq _ Ae) Ae) ?_)|refine inY 400 43 [74,77,76,78] Tryz.func78 rfl rfl rfl rfl fun C=> ?_|(refine Cs (Ja rfl rfl (ltN rfl) rfl rfl (Eg.ty rfl).u E2 (Fq _ Ae) (Eg.ty rfl).zero I) ?_)|refine zF ?_));(all_goals(conv=>whnf))
     all_goals exact Gf rfl ⟨_,_,_,rfl⟩
    ·obtain⟨F,r3,rfl,c3,n3⟩:=Lk k3
     have H:=Gc (F::r3) 3
     rw[k3] at H
     have A:(F6 (M6) (.string Sc) (rgV t.at' t.stop)) (.string Ia)=none:=by
      rw[Ft Ae];exact v
     unfold Qy at g
     obtain⟨w,q,hw,w1,w2⟩:=hE3 F Ab c3 n3
     obtain⟨p1,p2⟩:=X F Ab
     simp only[Pb,u,j,k3,if_true,Ck,if_false,List.tail_cons,Ro,Za,hw] at g
     rw[Xb (Hl _ _ _)] at g
     have Q:=Ht b F.at' F.stop Aa p1 p2
     rw[hw] at Q
     have hL:=Ht b w.at' w.stop Aa w1 w2
     have lL:=W9 b w.at' w.stop w2
     generalize J7 b w.at' w.stop=L at hL g lL
     have I:∀B fp w' bm gt,RA B fp w' bm gt (.agg [iv w.at',iv w.stop]) (((F6 (F6 (M6) (.string Sc) (rgV t.at' t.stop)) (.string Ia) (rgV w.at' w.stop)) (.string Ia)).getD (rgV 0 0)):=fun B fp w' bm gt=>by rw[Hl];exact Rw _ _
     have Z:(!((F6 (F6 (M6) (.string Sc) (rgV t.at' t.stop)) (.string Ia) (rgV w.at' w.stop)) (.string Ia)).isSome)=false:=by rw[Hl];rfl
     (repeat'((conv=>whnf);first|refine zP ?_|refine zN ?_|refine Ej ?_|refine Ee ?_|refine Al Y F5 ?_|refine Al U F5 ?_|refine Al H F5 ?_|refine inY 200 23 [74,77,76,78] Tryz.func77 rfl rfl rfl rfl fun C=> ?_|(refine Iv (fun _=>rfl) ?_)|(refine Ko (fun _=>rfl) ?_)|(refine Fx (Fk [1000006] rfl rfl rfl rfl rfl (fun _ _ _ _ _ _ h=>Jv h) (fun s f=>by obtain rfl:=Bh.1 f;rfl) (Eg.ty rfl).u E2 (Fq _ Ae) Ae) ?_)|refine inY 400 43 [74,77,76,78] Tryz.func78 rfl rfl rfl rfl fun C=> ?_|(refine Cs (Ja rfl rfl (ltN rfl) rfl rfl (Eg.ty rfl).u E2 (Fq _ Ae) (Eg.ty rfl).zero I) ?_)|refine inY 300 25 [74,77,76,78] Tryz.func76 rfl rfl rfl rfl fun C=> ?_|refine Al Q F5 ?_|refine Al hL F5 ?_|(refine Fx (Fk [1000000,2000006] rfl rfl rfl rfl rfl (fun _ _ _ _ _ _ h=>Jv h) (fun s f=>by simp only[Bj,Cb,or_false] at f;rcases f with rfl|rfl<;>rfl) (Eg.ty rfl).u E2 (Fq _ Ae) Ae) ?_)|refine zF ?_));(all_goals(conv=>whnf))
     clear I Z A v
     generalize F6 (F6 (M6) (.string Sc) (rgV t.at' t.stop)) (.string Ia) (rgV w.at' w.stop)=M9 at g|-
     refine Fh (fun z:Nat×(Lit->Option Value)×Nat=>z.1<=L.length/\z.2.2<=20+z.1/\Pa z.2.1 (L.drop z.1) (c.t.ext.drop z.1)=MM) (fun z=>L.length-z.1) (fun z:Nat×(Lit->Option Value)×Nat=>⟨[(0,Kl Tryz.prog 9 W0.heap.size m (z.2.2) (z.2.1)),(2,.d (Px c.t.ext)),(19,.d (Gw L)),(20,iv L.length),(21,iv z.1),(1000003,.ptr 3 0),(1000006,Kl Tryz.prog 9 W0.heap.size m (z.2.2) (z.2.1))],[(3,[iv 0,iv 0])],[]⟩) (0,M9,12) ⟨Ab,Ab,g⟩ leQ ?_
     rintro⟨a,N,n'⟩ ⟨T,E,d⟩
     simp only at T E d
     by_cases e:a<L.length
     ·have O:decide ((a:Int)<(L.length:Int))=true:=Aq Aa
      obtain⟨R,o⟩:∃p,L[a]?=some p:=⟨_,Ev e⟩
      have M:L.drop a=R::L.drop (a+1):=by
       obtain⟨u,j⟩:=Ew.1 o
       rw[<-j];exact A5 u
      rw[M] at d
      by_cases P:a<c.t.ext.length
      ·have ge:decide ((a:Int)<(c.t.ext.length:Int))=true:=Aq Aa
       obtain⟨K,k⟩:∃p,c.t.ext[a]?=some p:=⟨_,Ev P⟩
       have V:c.t.ext.drop a=K::c.t.ext.drop (a+1):=by
        obtain⟨u,j⟩:=Ew.1 k
        rw[<-j];exact A5 u
       have ho:=he.2 K (F9 k)
       have hk:(Rp++K.oid).length<=1000000000:=by rw[En];have:Rp.length=10:=rfl;omega
       rw[V] at d
       simp only[Pa] at d
       (repeat'((conv=>whnf);first|refine zP ?_|refine NIdx.tab (fun _=>rfl) o ?_|refine NIdx.tab (fun _=>rfl) k ?_|(refine Fx (Fk [0,1000006] rfl rfl rfl rfl rfl (fun _ _ _ _ _ _ h=>Jv h) (fun s f=>by simp only[Bj,Cb,or_false] at f;rcases f with rfl|rfl<;>rfl) (Eg.ty rfl).u E2 (Fq _ hk) (Dd E (by unfold maxLen;omega))) ?_)|(with_reducible refine NInt.i64 ?_)|refine zF ?_|refine Fv (by first|decide|omega|(simp only[D9,Ax];omega)) ?_));(all_goals(conv=>whnf))
       refine⟨(a+1,F6 N (.string (Rp++K.oid)) (rgV R.at' R.stop),n'+1),⟨e,by simp only;omega,d⟩,by simp only;omega,?_⟩
       exact leQ
      ·have ge:decide ((a:Int)<(c.t.ext.length:Int))=false:=Ao Aa
       rw[Bp (show c.t.ext.length<=a by omega)] at d
       simp only[Pa] at d
       (repeat'((conv=>whnf);first|refine zP ?_|refine zN ?_|refine Ej ?_|refine Ee ?_|refine NIdx.tab (fun _=>rfl) o ?_|(with_reducible refine NInt.i64 ?_)));(all_goals(conv=>whnf))
       refine⟨(a+1,N,n'),⟨e,by simp only;omega,by rw[Bp (show c.t.ext.length<=a+1 by omega)];rw[<-d];cases L.drop (a+1)<;>rfl⟩,by simp only;omega,?_⟩
       exact leQ
     ·have O:decide ((a:Int)<(L.length:Int))=false:=Ao Aa
      rw[Bp Aa] at d
      simp only[Pa] at d
      subst d
      (repeat'((conv=>whnf);refine zN ?_));(all_goals(conv=>whnf))
      all_goals exact Gf rfl ⟨_,_,_,rfl⟩
   ·obtain⟨l,r2,rfl,c2,n2⟩:=Lk j
    have U:=Gc (l::r2) 2
    rw[j] at U
    cases k3:Jr r2 3
    ·have H:=Gc r2 3
     rw[k3] at H
     have A:(F6 (F6 (M6) (.string Sc) (rgV t.at' t.stop)) (.string Sd) (rgV l.at' l.stop)) (.string Ia)=none:=by
      rw[Ft Ae,Ft Ae];exact v
     unfold Qy at g
     simp only[Pb,u,j,k3,if_true,Ck,if_false,List.tail_cons,Ro] at g
     rw[Xa A] at g
     subst g
     have I:∀B fp w bm gt,RA B fp w bm gt (.agg [iv (0:Nat),iv (0:Nat)]) (((F6 (F6 (M6) (.string Sc) (rgV t.at' t.stop)) (.string Sd) (rgV l.at' l.stop)) (.string Ia)).getD (rgV 0 0)):=fun B fp w bm gt=>by rw[A];exact Rw 0 0
     have Z:(!((F6 (F6 (M6) (.string Sc) (rgV t.at' t.stop)) (.string Sd) (rgV l.at' l.stop)) (.string Ia)).isSome)=true:=by rw[A];rfl
     (repeat'((conv=>whnf);first|refine zP ?_|refine zN ?_|refine Ej ?_|refine Ee ?_|refine Al Y F5 ?_|refine Al U F5 ?_|refine Al H F5 ?_|refine inY 200 23 [74,77,76,78] Tryz.func77 rfl rfl rfl rfl fun C=> ?_|(refine Iv (fun _=>rfl) ?_)|(refine Ko (fun _=>rfl) ?_)|(refine Fx (Fk [1000006] rfl rfl rfl rfl rfl (fun _ _ _ _ _ _ h=>Jv h) (fun s f=>by obtain rfl:=Bh.1 f;rfl) (Eg.ty rfl).u E2 (Fq _ Ae) Ae) ?_)|refine inY 400 43 [74,77,76,78] Tryz.func78 rfl rfl rfl rfl fun C=> ?_|(refine Cs (Ja rfl rfl (ltN rfl) rfl rfl (Eg.ty rfl).u E2 (Fq _ Ae) (Eg.ty rfl).zero I) ?_)|refine zF ?_));(all_goals(conv=>whnf))
     all_goals exact Gf rfl ⟨_,_,_,rfl⟩
    ·obtain⟨F,r3,rfl,c3,n3⟩:=Lk k3
     have H:=Gc (F::r3) 3
     rw[k3] at H
     have A:(F6 (F6 (M6) (.string Sc) (rgV t.at' t.stop)) (.string Sd) (rgV l.at' l.stop)) (.string Ia)=none:=by
      rw[Ft Ae,Ft Ae];exact v
     unfold Qy at g
     obtain⟨w,q,hw,w1,w2⟩:=hE3 F Ab c3 n3
     obtain⟨p1,p2⟩:=X F Ab
     simp only[Pb,u,j,k3,if_true,Ck,if_false,List.tail_cons,Ro,Za,hw] at g
     rw[Xb (Hl _ _ _)] at g
     have Q:=Ht b F.at' F.stop Aa p1 p2
     rw[hw] at Q
     have hL:=Ht b w.at' w.stop Aa w1 w2
     have lL:=W9 b w.at' w.stop w2
     generalize J7 b w.at' w.stop=L at hL g lL
     have I:∀B fp w' bm gt,RA B fp w' bm gt (.agg [iv w.at',iv w.stop]) (((F6 (F6 (F6 (M6) (.string Sc) (rgV t.at' t.stop)) (.string Sd) (rgV l.at' l.stop)) (.string Ia) (rgV w.at' w.stop)) (.string Ia)).getD (rgV 0 0)):=fun B fp w' bm gt=>by rw[Hl];exact Rw _ _
     have Z:(!((F6 (F6 (F6 (M6) (.string Sc) (rgV t.at' t.stop)) (.string Sd) (rgV l.at' l.stop)) (.string Ia) (rgV w.at' w.stop)) (.string Ia)).isSome)=false:=by rw[Hl];rfl
     (repeat'((conv=>whnf);first|refine zP ?_|refine zN ?_|refine Ej ?_|refine Ee ?_|refine Al Y F5 ?_|refine Al U F5 ?_|refine Al H F5 ?_|refine inY 200 23 [74,77,76,78] Tryz.func77 rfl rfl rfl rfl fun C=> ?_|(refine Iv (fun _=>rfl) ?_)|(refine Ko (fun _=>rfl) ?_)|(refine Fx (Fk [1000006] rfl rfl rfl rfl rfl (fun _ _ _ _ _ _ h=>Jv h) (fun s f=>by obtain rfl:=Bh.1 f;rfl) (Eg.ty rfl).u E2 (Fq _ Ae) Ae) ?_)|refine inY 400 43 [74,77,76,78] Tryz.func78 rfl rfl rfl rfl fun C=> ?_|(refine Cs (Ja rfl rfl (ltN rfl) rfl rfl (Eg.ty rfl).u E2 (Fq _ Ae) (Eg.ty rfl).zero I) ?_)|refine inY 300 25 [74,77,76,78] Tryz.func76 rfl rfl rfl rfl fun C=> ?_|refine Al Q F5 ?_|refine Al hL F5 ?_|(refine Fx (Fk [1000000,2000006] rfl rfl rfl rfl rfl (fun _ _ _ _ _ _ h=>Jv h) (fun s f=>by simp only[Bj,Cb,or_false] at f;rcases f with rfl|rfl<;>rfl) (Eg.ty rfl).u E2 (Fq _ Ae) Ae) ?_)|refine zF ?_));(all_goals(conv=>whnf))
     clear I Z A v
     generalize F6 (F6 (F6 (M6) (.string Sc) (rgV t.at' t.stop)) (.string Sd) (rgV l.at' l.stop)) (.string Ia) (rgV w.at' w.stop)=M9 at g|-
     refine Fh (fun z:Nat×(Lit->Option Value)×Nat=>z.1<=L.length/\z.2.2<=20+z.1/\Pa z.2.1 (L.drop z.1) (c.t.ext.drop z.1)=MM) (fun z=>L.length-z.1) (fun z:Nat×(Lit->Option Value)×Nat=>⟨[(0,Kl Tryz.prog 9 W0.heap.size m (z.2.2) (z.2.1)),(2,.d (Px c.t.ext)),(19,.d (Gw L)),(20,iv L.length),(21,iv z.1),(1000003,.ptr 3 0),(1000006,Kl Tryz.prog 9 W0.heap.size m (z.2.2) (z.2.1))],[(3,[iv 0,iv 0])],[]⟩) (0,M9,13) ⟨Ab,Ab,g⟩ leQ ?_
     rintro⟨a,N,n'⟩ ⟨T,E,d⟩
     simp only at T E d
     by_cases e:a<L.length
     ·have O:decide ((a:Int)<(L.length:Int))=true:=Aq Aa
      obtain⟨R,o⟩:∃p,L[a]?=some p:=⟨_,Ev e⟩
      have M:L.drop a=R::L.drop (a+1):=by
       obtain⟨u,j⟩:=Ew.1 o
       rw[<-j];exact A5 u
      rw[M] at d
      by_cases P:a<c.t.ext.length
      ·have ge:decide ((a:Int)<(c.t.ext.length:Int))=true:=Aq Aa
       obtain⟨K,k⟩:∃p,c.t.ext[a]?=some p:=⟨_,Ev P⟩
       have V:c.t.ext.drop a=K::c.t.ext.drop (a+1):=by
        obtain⟨u,j⟩:=Ew.1 k
        rw[<-j];exact A5 u
       have ho:=he.2 K (F9 k)
       have hk:(Rp++K.oid).length<=1000000000:=by rw[En];have:Rp.length=10:=rfl;omega
       rw[V] at d
       simp only[Pa] at d
       (repeat'((conv=>whnf);first|refine zP ?_|refine NIdx.tab (fun _=>rfl) o ?_|refine NIdx.tab (fun _=>rfl) k ?_|(refine Fx (Fk [0,1000006] rfl rfl rfl rfl rfl (fun _ _ _ _ _ _ h=>Jv h) (fun s f=>by simp only[Bj,Cb,or_false] at f;rcases f with rfl|rfl<;>rfl) (Eg.ty rfl).u E2 (Fq _ hk) (Dd E (by unfold maxLen;omega))) ?_)|(with_reducible refine NInt.i64 ?_)|refine zF ?_|refine Fv (by first|decide|omega|(simp only[D9,Ax];omega)) ?_));(all_goals(conv=>whnf))
       refine⟨(a+1,F6 N (.string (Rp++K.oid)) (rgV R.at' R.stop),n'+1),⟨e,by simp only;omega,d⟩,by simp only;omega,?_⟩
       exact leQ
      ·have ge:decide ((a:Int)<(c.t.ext.length:Int))=false:=Ao Aa
       rw[Bp (show c.t.ext.length<=a by omega)] at d
       simp only[Pa] at d
       (repeat'((conv=>whnf);first|refine zP ?_|refine zN ?_|refine Ej ?_|refine Ee ?_|refine NIdx.tab (fun _=>rfl) o ?_|(with_reducible refine NInt.i64 ?_)));(all_goals(conv=>whnf))
       refine⟨(a+1,N,n'),⟨e,by simp only;omega,by rw[Bp (show c.t.ext.length<=a+1 by omega)];rw[<-d];cases L.drop (a+1)<;>rfl⟩,by simp only;omega,?_⟩
       exact leQ
     ·have O:decide ((a:Int)<(L.length:Int))=false:=Ao Aa
      rw[Bp Aa] at d
      simp only[Pa] at d
      subst d
      (repeat'((conv=>whnf);refine zN ?_));(all_goals(conv=>whnf))
      all_goals exact Gf rfl ⟨_,_,_,rfl⟩
end Go.Proofs.YtbedjionhmaafaaGreatDoor
