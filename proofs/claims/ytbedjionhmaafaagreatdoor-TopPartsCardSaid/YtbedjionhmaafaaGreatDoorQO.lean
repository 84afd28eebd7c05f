/- QO: Lcd Lce Zce Ltp Mta Mtb Rma Rpa Rpb Rpc Rpd Awt Top. No condition. -/
import Derived.Test.YtbedjionhmaafaaGreatDoorQN
set_option linter.all false
namespace Go.Proofs.YtbedjionhmaafaaGreatDoor
open Go.RowKit
set_option maxRecDepth 100000
set_option maxHeartbeats 16000000
variable {p:Prop} {b:List UInt8} {c:Cer}
theorem j0 (h:p:=by first|rfl|(simp only[D8,AV.ren,AV.give,D.un,Ef,D7,D6,Ap,Am,Ak,Ea,Ed,Ep,Eo,AV.dull,I5,single];first|done|rfl)):p:=h
theorem aj (b d:List UInt8) (M:Lit->Option Value) (a z:Nat) (g:Es Tryz.prog 26 [.d (By false b)] (fun r=>∃B m n,r= .tup [Kl Tryz.prog 9 B m n M,erA 0 0])) (h:M (.string d)=some (rgV a z)) (e:d.length<=1000000000):
 aC 7 [.d (By false b),sx d] (.tup [.agg [iv a,iv z],erA 0 0]):=by
 have f:∀B fp w bm gt,RA B fp w bm gt (.agg [iv a,iv z]) ((M (.string d)).getD (rgV 0 0)):=fun B fp w bm gt=>by rw[h];exact Rw _ _
 have j:(!(M (.string d)).isSome)=false:=by rw[h];rfl
 refine acY 19 [26,27] Tryz.func7 rfl rfl fun _ _ _=> ?_
 (repeat'((conv=>whnf);first|refine zP ?_|refine zN ?_|refine Ej ?_|refine Ee ?_|((refine No g 700 rfl rfl (ltN rfl) rfl rfl rfl j0 ?_;rintro _ ⟨B,m,n,rfl⟩))|refine inY 100 27 [26,27] Tryz.func27 rfl rfl rfl rfl fun i=> ?_|(refine Cs (Ja rfl rfl (ltN rfl) rfl rfl (Eg.ty rfl).u E2 (Fq d e) (Eg.ty rfl).zero f) ?_)|exact zE))
theorem wW:∀(ts:List Tv) (p:Nat) (x:El),x∈els p ts->p<=x.at'/\x.at'<=x.stop/\x.stop<=p+(tvsE ts).length
 |[],_,_,h=>by cases h
 |t::r,p,x,h=>by
  rw[els] at h
  rw[Fm,En]
  rcases Bj.1 h with rfl|h
  ·exact⟨At _,Nat.le_add_right _ _,by show p+t.enc.length<=_;omega⟩
  ·have:=wW r _ x h
   omega
theorem CJ {b:List UInt8} {x:El}:∀(ts:List Tv) (p:Nat) (w:List UInt8),b.drop p=tvsE ts++w->x∈els p ts->∃t a w',t∈ts/\x=t.el a/\b.drop a=t.enc++w'
 |[],_,_,_,h=>by cases h
 |t::r,p,w,e,h=>by
  rw[els] at h
  rw[Fm,Bt] at e
  rcases Bj.1 h with rfl|h
  ·exact⟨t,p,_,Bd,rfl,e⟩
  ·obtain⟨g,a,w',d,i,f⟩:=CJ r _ w (Nr e).1 h
   exact⟨g,a,w',Be _ d,i,f⟩
theorem CK {w:List UInt8} {p c n c' n':Nat} {k k':Bool} {v:List UInt8} (g:(⟨c,n,k,Ei c' n' k' v⟩:Tv).ok) (l:c'<=3) (i:n'<=30) (h:b.drop p=(⟨c,n,k,Ei c' n' k' v⟩:Tv).enc++w) (q:p<=b.length):
 ∃z,J7 b p (p+(⟨c,n,k,Ei c' n' k' v⟩:Tv).enc.length)=[z]/\z.at'<=z.stop/\z.stop<=b.length:=by
 have e:Ei c' n' k' v=tvsE [⟨c',n',k',v⟩]:=by
  simp only[tvsE,A4,List.flatMap_nil,Am];rfl
 have a:=Cf List.length h
 rw[Eh,En] at a
 have m:=g.v
 simp only at m
 have o:=Hy c' n' k' v
 rw[e] at g h a|-
 have j:=Tv.len ⟨c,n,k,tvsE [⟨c',n',k',v⟩]⟩
 have:=vW (b:=b) (f:=p) (t:=p+(⟨c,n,k,tvsE [⟨c',n',k',v⟩]⟩:Tv).enc.length) g (by
  intro x d
  rw[Bh.1 d]
  exact⟨l,i,by simp only;omega⟩) (by rw[Nat.add_sub_cancel_left];exact(Nr h).2) rfl Aa
 refine⟨_,this,Nat.le_add_right _ _,?_⟩
 show p+_+_<=_
 simp only[tvsE,A4,List.flatMap_nil,Am] at j a|-
 omega
theorem SQ {t:Tbs} (h:S4 t=true) (f:t.ver=0):t.hi=false/\t.hs=false/\t.ext=[]:=by
 unfold S4 at h
 split at h
 ·cases h
 split at h
 ·cases h
 split at h
 ·cases h
 rename_i g
 simp only[Co,Ca,not_or,Bool.not_eq_false] at g
 obtain⟨-,-,a,d⟩:=g
 refine⟨?_,?_,?_⟩
 ·cases e:t.hi with
  |false=>rfl
  |true=>
   unfold qN at a
   rw[Aj e,f] at a
   cases a
 ·cases e:t.hs with
  |false=>rfl
  |true=>
   unfold qN at d
   rw[Aj e,f] at d
   cases d
 ·split at h
  ·assumption
  ·rw[f] at h;cases h
theorem IU {q:Nat} (h:CerF S4 b q c) (M:b.length<=6000) (K:aC 5 [.d (By false b)] (.tup [ceQ c,erA 0 0])) (X:c.t.ext.length<=1000000/\∀y∈c.t.ext,y.oid.length<=4000000):
 Es Tryz.prog 26 [.d (By false b)] (fun r=>∃B m n,r= .tup [Kl Tryz.prog 9 B m n (Vc b c (J7 b 0 b.length) (J7 b q (q+(Jy c.t).enc.length))),erA 0 0]):=by
 obtain⟨o,N,g3⟩:=QH h
 have W:=iB h Aa
 have L:=h.t.ok
 have g:=Tv.len (Jy c.t)
 have Q:(Jy c.t).v=tvsE c.t.tvs:=rfl
 rw[Q] at g
 have C:J7 b 0 b.length=[(Jy c.t).el q,(S3 c.a).el (q+(Jy c.t).enc.length),(⟨0,3,false,O5 c.l c.u⟩:Tv).el (q+(Jy c.t).enc.length+(S3 c.a).enc.length)]:=W
 have j:((Jy c.t).el q).at'<=((Jy c.t).el q).stop/\((Jy c.t).el q).stop<=b.length:=⟨Nat.le_add_right _ _,by show q+(Jy c.t).enc.length<=_;omega⟩
 rw[C]
 have J:J7 b ((Jy c.t).el q).at' ((Jy c.t).el q).stop=J7 b q (q+(Jy c.t).enc.length):=rfl
 have f:∀x∈J7 b q (q+(Jy c.t).enc.length),x.at'<=x.stop/\x.stop<=b.length:=fun x j=>by
  rw[o] at j
  have:=wW _ _ _ j
  omega
 by_cases d:c.t.ver=0
 ·obtain⟨P,Y,k3⟩:=SQ h.v d
  have e:c.t.tvs=Rm c.t:=by unfold Tbs.tvs lD O7 Wz;rw[d,P,Y,k3];rfl
  refine ah b c M _ _ _ _ K C J j ?_ ?_
  ·rw[o,e];rfl
  ·rw[o,e];rfl
 ·have e:c.t.tvs=⟨2,0,true,Ei 0 2 false [UInt8.ofNat c.t.ver]⟩::(Rm c.t++(O7 1 c.t.hi c.t.il c.t.iu++(O7 2 c.t.hs c.t.sl c.t.su++Wz c.t.ext))):=by
   unfold Tbs.tvs lD;rw[Ai d];rfl
  have I:=N
  rw[e,Fm,Bt] at I
  have E:=L ⟨2,0,true,Ei 0 2 false [UInt8.ofNat c.t.ver]⟩ (by rw[e];exact Bd)
  obtain⟨z,U,z2,z3⟩:=CK E Ae Ae I Aa
  have i:J7 b q (q+(Jy c.t).enc.length)=(⟨2,0,true,Ei 0 2 false [UInt8.ofNat c.t.ver]⟩:Tv).el (q+(Jy c.t).hd)::els (q+(Jy c.t).hd+(⟨2,0,true,Ei 0 2 false [UInt8.ofNat c.t.ver]⟩:Tv).enc.length) (Rm c.t++(O7 1 c.t.hi c.t.il c.t.iu++(O7 2 c.t.hs c.t.sl c.t.su++Wz c.t.ext))):=by
   rw[o,e];rfl
  refine ai b c M _ _ _ _ K C J j _ _ z [] i (by rw[i];rfl) U (f _ (by rw[i];exact Bd)) ?_ (fun y k=>f y (by rw[i];exact Be _ k)) ?_ X
  ·show 6<=(els _ (Rm c.t++_)).length
   show 6<=(_::_::_::_::_::_::els _ _:List El).length
   simp only[D9]
   omega
  ·intro y k V Z
   obtain⟨t,s,w',a,rfl,R⟩:=CJ _ _ _ (Nr I).1 k
   have T:t.c=2:=V
   have l:t.n=3:=Z
   have w:=L t (by rw[e];exact Be _ a)
   rcases Cm.1 a with a|a
   ·exfalso
    unfold Rm at a
    simp only[Bj,Cb,or_false] at a
    rcases a with rfl|rfl|rfl|rfl|rfl|rfl<;>cases T
   rcases Cm.1 a with a|a
   ·exfalso
    unfold O7 at a
    split at a
    ·rw[Bh.1 a] at l;cases l
    ·cases a
   rcases Cm.1 a with a|a
   ·exfalso
    unfold O7 at a
    split at a
    ·rw[Bh.1 a] at l;cases l
    ·cases a
   unfold Wz at a
   split at a
   ·cases a
   obtain rfl:=Bh.1 a
   have H:s<=b.length:=by
    have:=wW _ _ _ k
    have h2:=f _ (by rw[i];exact Be _ k)
    have h3:s<=((⟨2,3,true,XV c.t.ext⟩:Tv).el s).stop:=Nat.le_add_right _ _
    omega
   obtain⟨O,u,A,F⟩:=CK (c':=0) (n':=16) (k':=true) (v:=(c.t.ext.map HH).flatten) w Ae Ae R H
   exact⟨O,[],u,A,F⟩
theorem SS {d:List UInt8} {q:Nat} {a z:Nat} (h:CerF S4 b q c) (j:b.length<=6000) (f:aC 5 [.d (By false b)] (.tup [ceQ c,erA 0 0])) (g:c.t.ext.length<=1000000/\∀y∈c.t.ext,y.oid.length<=4000000) (e:d.length<=1000000000) (i:Vc b c (J7 b 0 b.length) (J7 b q (q+(Jy c.t).enc.length)) (.string d)=some (rgV a z)):
 aC 7 [.d (By false b),sx d] (.tup [.agg [iv a,iv z],erA 0 0]):=
 aj b d _ a z (IU h j f g) i e
abbrev ST:Value:= .agg #[.int .i64 0,.int .i64 0,.int .i64 0,.int .i64 0,.int .i64 0,.int .i64 0]
abbrev j2:AV:= .agg [iv 0,iv 0,iv 0,iv 0,iv 0,iv 0]
theorem j3 (x y:Operand) (w:World):(do eqGuard .neq 29 x y ST ST;binOp .neq 29 ST ST:Sem Value).run Tryz.prog w= .ok (.bool false) w:=by
 kernel_rfl
theorem SU {B:Nat} {fp:Nat->Nat->Prop} {w:World} {bm:BM} {gt:Nat->Value} {v:Value} (h:RA B fp w bm gt j2 v):v=ST:=by
 cases h with
 |agg vs i g=>
  match vs,i with
  |[a,b,c,d,e,f],_=>
   have n:=(g 0 _ a rfl rfl).val
   have j:=(g 1 _ b rfl rfl).val
   have l:=(g 2 _ c rfl rfl).val
   have k:=(g 3 _ d rfl rfl).val
   have i:=(g 4 _ e rfl rfl).val
   have m:=(g 5 _ f rfl rfl).val
   rw[n,j,l,k,i,m]
theorem iL {C:Cx} {o:Oper} {σ:AS} {t:Nat} {f:TypeId} {x y:Operand} (h:o.op= .binOp .neq 29 x y f) (l:o.dst=some t) (i:t<C.N) (k:σ.eval x=some j2) (g:σ.eval y=some j2):
 Fp Tryz.prog C o σ (σ.put t (bv false)):=
 E1 l i fun a w bm gt fp d=>⟨_,by
  have e:=SU (d.eval k)
  have j:=SU (d.eval g)
  simp only[execOp,h,e,j]
  rw[Au,j3 x y w]
  rfl,.d (.v _)⟩
abbrev nb0:AV:= .d (By false [])
theorem zBy:aC 8 [nb0,nb0] (bv true):=by
 refine acQ 10 Tryz.func8 rfl rfl fun _ _ _=> ?_
 (repeat'((conv=>whnf);(with_reducible refine jJ ?_)));(all_goals(conv=>whnf))
 all_goals exact zE
theorem zBi:aC 25 [.agg [nb0,iv 0],.agg [nb0,iv 0]] (bv true):=by
 refine acQ 17 Tryz.func25 rfl rfl fun _ _ _=> ?_
 (repeat'((conv=>whnf);first|refine Ej ?_|refine Al zBy rfl ?_|exact zE))
theorem zAl:aC 24 [.agg [sx [],nb0],.agg [sx [],nb0]] (bv true):=by
 refine acQ 17 Tryz.func24 rfl rfl fun _ _ _=> ?_
 (repeat'((conv=>whnf);first|refine Ej ?_|refine Al zBy rfl ?_|exact zE))
theorem zKy:aC 72 [.agg [sx [],nb0,nb0,iv 0],.agg [sx [],nb0,nb0,iv 0]] (bv true):=by
 refine acQ 17 Tryz.func72 rfl rfl fun _ _ _=> ?_
 (repeat'((conv=>whnf);first|refine Ej ?_|refine Al zAl rfl ?_|refine Al zBi rfl ?_|exact zE))
theorem zNm:aC 71 [.d (Kz []),.d (Kz [])] (bv true):=by
 refine acQ 33 Tryz.func71 rfl rfl fun _ _ _=> ?_
 (repeat'((conv=>whnf);first|refine Ee ?_|(refine Hv 1 ?_)|exact zE))
theorem zEx:aC 73 [.d (Ph []),.d (Ph [])] (bv true):=by
 refine acQ 33 Tryz.func73 rfl rfl fun _ _ _=> ?_
 (repeat'((conv=>whnf);first|refine Ee ?_|(refine Hv 1 ?_)|exact zE))
theorem zTb:aC 23 [Zc .z,Zc .z] (bv true):=by
 refine acQ 96 Tryz.func23 rfl rfl fun _ _ _=> ?_
 (repeat'((conv=>whnf);first|refine Ej ?_|refine Ee ?_|refine Al zBy rfl ?_|refine Al zAl rfl ?_|refine Al zNm rfl ?_|refine Al zKy rfl ?_|refine Al zBi rfl ?_|refine Al zEx rfl ?_|refine Cs (iL rfl rfl (ltN rfl) rfl rfl) ?_|exact zE))
theorem zCe:aC 6 [.agg (ceC false Kz Ph .z),.agg (ceC false Kz Ph .z)] (bv true):=by
 refine acQ 24 Tryz.func6 rfl rfl fun _ _ _=> ?_
 (repeat'((conv=>whnf);first|refine Ej ?_|refine Al zTb rfl ?_|refine Al zAl rfl ?_|refine Al zBi rfl ?_|exact zE))
theorem byD (d:List UInt8) (a:d.length<=1000000000):aC 8 [.d (By false d),.d (By false d)] (bv true):=by
 have e:(d==d)=true:=Da d
 refine acQ 10 Tryz.func8 rfl rfl fun _ _ _=> ?_
 (repeat'((conv=>whnf);(with_reducible refine jJ ?_)));(all_goals(conv=>whnf))
 all_goals(refine E0 ?_;(repeat'(first|refine A1 ?_ ?_|exact rfl));(all_goals(conv=>whnf)))
 all_goals exact e
def Tbs.xs (t:Tbs):Prop:=t.ext.length<=1000000/\∀y∈t.ext,y.oid.length<=4000000
theorem am (V:Tbs->Bool) (d:List UInt8) (f:d.length<=100000):(M4 V d).1.xs:=by
 have a:=(dY d f).1
 unfold M4
 generalize Mh d=R at a|-
 obtain⟨t,s⟩:=R
 simp only at a|-
 generalize P7 d (V t) s=S
 obtain⟨l,k,o⟩:=S
 simp only
 split
 ·exact⟨Nat.zero_le _,fun y e=>by cases e⟩
 ·exact⟨a.en,a.eo⟩
theorem an (V:Tbs->Bool) (b:List UInt8) (m:b.length<=100000):(Rn V b).1.t.xs:=by
 have d:=fun s=>Lw (fun t:Tbs=>t.xs) (b:=b) (z:= .z) (p:=M4 V) (s:=s) ⟨Nat.zero_le _,fun y e=>by cases e⟩ fun x=>am V _ (by have:=Py b x;omega)
 unfold Rn IA
 have d:=d (H1 b)
 generalize E5 b .z (M4 V) (H1 b)=R at d|-
 obtain⟨t,g⟩:=R
 simp only at d|-
 generalize E5 b .z Ju g=R
 obtain⟨a,h⟩:=R
 simp only
 generalize E5 b ([],0) Sa h=R
 obtain⟨⟨l,u⟩,f⟩:=R
 simp only
 generalize P7 b (decide (a=t.sig)) f=S
 obtain⟨j,k,i⟩:=S
 simp only
 split
 ·exact⟨Nat.zero_le _,fun y e=>by cases e⟩
 ·exact d
theorem SV {V:Tbs->Bool} (h:(Rn V b).2.1=0):(Rn V b).2.2=0:=by
 unfold Rn at h|-
 generalize IA V b=p at h|-
 obtain⟨c,s⟩:=p
 simp only at h|-
 generalize P7 b (decide (c.a=c.t.sig)) s=q at h|-
 obtain⟨l,k,o⟩:=q
 simp only at h|-
 split at h
 ·rename_i a;exact Bg h a
 ·rename_i a;rw[Ai a]
theorem ap {M:Lit->Option Value} {p:Nat->Nat} (h:LocF b c M p) {i:Nat} {d:List UInt8} (a:six[i]?=some d):M (.string d)=some (rgV (p i) (p (i+1))):=by
 match i with
 |0=>cases a;exact h.s0
 |1=>cases a;exact h.s1
 |2=>cases a;exact h.s2
 |3=>cases a;exact h.s3
 |4=>cases a;exact h.s4
 |5=>cases a;exact h.s5
 |n+6=>cases a
theorem aq {M:Lit->Option Value} {p:Nat->Nat} (h:LocF b c M p):∀i,i<=6->p i<=b.length:=by
 have l:p 0<p 1:=h.lt 0 Ae
 have d:p 1<p 2:=h.lt 1 Ae
 have j:p 2<p 3:=h.lt 2 Ae
 have f:p 3<p 4:=h.lt 3 Ae
 have g:p 4<p 5:=h.lt 4 Ae
 have k:p 5<p 6:=h.lt 5 Ae
 have e:=h.n
 intro i a
 match i,a with
 |0,_=>omega
 |1,_=>omega
 |2,_=>omega
 |3,_=>omega
 |4,_=>omega
 |5,_=>omega
 |6,_=>omega
def iM (p:Nat->Nat) (i:Nat):Int:=if i=0 then-1 else(p i:Int)
theorem S8 (h:p:=by first|rfl|(simp only[D8,AV.ren,AV.give,D.un,Ef,D7,D6,Ap,Am,Ak,Ea,Ed,Ep,Eo,Ex,Fi,Ho,Ib,Hm,naA,seA,ceC,iG,tmC,Ak,Ap];first|done|rfl)):p:=h
theorem j4 (h:p:=by((try simp only[D8,AV.ren,AV.give,D.un,Ef,D7,D6,Ap,Am,Ak,Ea,Ed,Ep,Eo,Ex,Fi,Ho,Ib,Hm,naA,seA,ceC,iG,tmC,Ak,Ap]);(repeat'(first|exact trivial|exact Er _|refine A1 ?_ ?_|exact rfl|exact Cv rfl|exact Cz rfl|exact Cz Ah|omega|refine Cv ?_));first|done|fail)):p:=h
theorem au (A:aC 4 [] (bv true)) (b:List UInt8) (U:b.length<=big):aC 3 [.d (By false b)] (bv true):=by
 by_cases J:6000<b.length
 ·have g:decide ((b.length:Int)>6000)=true:=Aq Aa
  refine acQ 178 Tryz.func3 rfl rfl fun _ _ _=> ?_
  (repeat'((conv=>whnf);first|refine zP ?_|refine zN ?_|refine Ej ?_|refine Ee ?_|refine Al A rfl ?_|exact zE))
 have g:decide ((b.length:Int)>6000)=false:=Ao Aa
 have J:b.length<=6000:=Aa
 have s:=rJ b J
 have n:=an S4 b Aa
 by_cases h:(Rn S4 b).2.1≠0
 ·have I:=g9 h
  generalize Rn S4 b=R at s h I
  obtain⟨c,k,o⟩:=R
  simp only at h I
  subst I
  have gk:((k:Int) !=0)=true:=by rw[Av];omega
  refine acQ 178 Tryz.func3 rfl rfl fun _ _ _=> ?_
  (repeat'((conv=>whnf);first|refine zP ?_|refine zN ?_|refine Ej ?_|refine Ee ?_|refine Al A rfl ?_|refine Al s S8 ?_|refine H0 zCe j4 ?_|exact zE))
 obtain h:(Rn S4 b).2.1=0:=As.1 h
 obtain⟨q,v⟩:=QC h Aa
 have F:=SV h
 generalize Rn S4 b=R at s h v F n
 obtain⟨c,k,o⟩:=R
 simp only at h v F n
 subst h F
 have s:aC 5 [.d (By false b)] (.tup [ceQ c,erA 0 0]):=s
 obtain⟨p,f⟩:=oe v Aa
 have t:∀(e:List UInt8) (a z:Nat),e.length<=1000000000->Vc b c (J7 b 0 b.length) (J7 b q (q+(Jy c.t).enc.length)) (.string e)=some (rgV a z)->aC 7 [.d (By false b),sx e] (.tup [.agg [iv a,iv z],erA 0 0]):=fun e a z Q X=>SS v J s n Q X
 have j:=aq f
 have r:=fun i e (u:six[i]?=some e)=>ap f u
 have l:=f.lt
 have N:=t IF _ _ Ae f.a
 have M:=t _ _ _ Ae f.s1
 have P:=t IG _ _ Ae f.v
 have o7:=f.o7
 have o8:=f.o8
 obtain⟨d,B⟩:∃d,(b.drop (p 7)).take (p 8-p 7)=d:=⟨_,rfl⟩
 have H:(b.drop (p 1)).take (p 2-p 1)=d:=by rw[<-B,f.e1,f.e7,v.a]
 have T:=byD d (by rw[<-B,Ec,Eh];omega)
 clear f v
 have W:p 1<p 2:=l 1 Ae
 have l2:p 2<=b.length:=j 2 Ae
 have q1:decide ((p 7:Int)<0)=false:=Ao Aa
 have q2:decide ((p 7:Int)>(p 8:Int))=false:=Ao Aa
 have q3:decide ((p 8:Int)>(b.length:Int))=false:=Ao Aa
 have q4:decide ((p 1:Int)<0)=false:=Ao Aa
 have q5:decide ((p 1:Int)>(p 2:Int))=false:=Ao Aa
 have q6:decide ((p 2:Int)>(b.length:Int))=false:=Ao Aa
 have q7:((p 8:Int)==(p 8:Int))=true:=Da _
 have q8:((b.length:Int)==(b.length:Int))=true:=Da _
 refine acQ 178 Tryz.func3 rfl rfl fun _ _ _=> ?_
 (repeat'((conv=>whnf);first|refine zP ?_|refine zN ?_|refine Ej ?_|refine Ee ?_|refine Al A rfl ?_|refine Al s S8 ?_));(all_goals(conv=>whnf))
 refine Fh (fun i:Nat=>i<=6) (fun i=>6-i) (fun i=>⟨[(0,.d (By false b)),(5,Fy 35 1 9 U0 six),(6,iv (iM p i)),(7,iv i)],[],[(35,(six.length,1,9))]⟩) 0 Aa leQ ?_
 rintro i hi
 by_cases y:i<6
 rotate_left
 ·have V:decide ((i:Int)<6)=false:=Ao Aa
  clear t r j l
  (repeat'((conv=>whnf);first|refine zP ?_|refine zN ?_|refine Ej ?_|refine Ee ?_|refine Al N S8 ?_|refine Al M S8 ?_|refine Al P S8 ?_|refine Cs (Xu rfl rfl (ltN rfl) rfl rfl) ?_|(refine NSl.bytes (p 7) (p 8) d B ?_)|(refine NSl.bytes (p 1) (p 2) d H ?_)|refine Al T S8 ?_|refine zF ?_|(refine NBr.mk (fun w=> ?_) (fun w=> ?_)<;>(have m:=w;(try simp only[zS] at m)<;>first|(exfalso;omega)|skip))|exact zE))
 have V:decide ((i:Int)<6)=true:=Aq Aa
 obtain⟨e,u⟩:∃x,six[i]?=some x:=⟨_,Ev y⟩
 have E:e.length<=1000000000:=Bi (wV e (F9 u)) Ae
 have K:=t e _ _ E (r i e u)
 have k1:=j (i+1) Aa
 have k2:=l i y
 have r1:decide ((p i:Int)<0)=false:=Ao Aa
 have Z:decide ((p (i+1):Int)>(b.length:Int))=false:=Ao Aa
 have r3:decide ((p i:Int)>=(p (i+1):Int))=false:=Ao Aa
 clear t r j l N M P
 have L:iM p (i+1)=(p (i+1):Int):=by unfold iM;rw[Ai Aa]
 by_cases O:i=0
 ·subst O
  have C:iM p 0= -1:=rfl
  rw[C]
  (repeat'((conv=>whnf);first|refine zP ?_|refine zN ?_|refine Ej ?_|refine Ee ?_|refine NIdx.tab (fun _=>rfl) u ?_|refine Al K S8 ?_|refine Cs (Xu rfl rfl (ltN rfl) rfl rfl) ?_|(with_reducible refine NInt.i64 ?_)));(all_goals(conv=>whnf))
  refine⟨1,Aa,Aa,?_⟩
  rw[L]
  exact leQ
 ·have C:iM p i=(p i:Int):=by unfold iM;rw[Ai O]
  rw[C]
  have r4:decide ((p i:Int)>=0)=true:=Aq Aa
  have Y:((p i:Int) !=(p i:Int))=false:=by rw[B1]
  (repeat'((conv=>whnf);first|refine zP ?_|refine zN ?_|refine Ej ?_|refine Ee ?_|refine NIdx.tab (fun _=>rfl) u ?_|refine Al K S8 ?_|refine Cs (Xu rfl rfl (ltN rfl) rfl rfl) ?_|(with_reducible refine NInt.i64 ?_)|(refine NBr.mk (fun w=> ?_) (fun w=> ?_)<;>(have m:=w;(try simp only[zS] at m)<;>first|(exfalso;omega)|skip))));(all_goals(conv=>whnf))
  refine⟨i+1,Aa,Aa,?_⟩
  rw[L]
  exact leQ
abbrev Nt:List UInt8:=[49,46,50,46,51]
abbrev mj:List UInt8:=[49,46,50,46,52]
abbrev plN:List (List Att):=[[⟨[50,46,53,46,52,46,51],[12,2,65,98]⟩]]
abbrev plY:Tm:=⟨2000,1,1,0,0,0⟩
abbrev plZ:Tm:=⟨2050,1,1,0,0,0⟩
abbrev plK:Ky:=⟨⟨mj,[]⟩,[160],5⟩
def plT:Tbs:=⟨0,[1],⟨Nt,[]⟩,plN,plY,plZ,plN,plK,false,[],0,false,[],0,[]⟩
def plC:Cer:=⟨plT,⟨Nt,[]⟩,[],0⟩
abbrev SW:List UInt8:=[2,1,1]
abbrev Qz:List UInt8:=[48,4,6,2,42,3]
abbrev Yg:List UInt8:=[48,13,49,11,48,9,6,3,85,4,3,12,2,65,98]
abbrev IV:List UInt8:=[23,13,48,48,48,49,48,49,48,48,48,48,48,48,90]
abbrev rm:List UInt8:=[24,15,50,48,53,48,48,49,48,49,48,48,48,48,48,48,90]
abbrev SX:List UInt8:=48::32::(IV++rm)
abbrev SY:List UInt8:=[48,12-2,48,4,6,2,42,4,3,2,5,160]
def wX:List UInt8:=48::85::(SW++(Qz++(Yg++(SX++(Yg++SY)))))
def lO:List UInt8:=48::96::(wX++(Qz++[3,1,0]))
theorem rK:nmZ plN:=OL (by decide+kernel) (by decide+kernel)
theorem CL:plT.mid:=by
 refine⟨Ae,⟨Ae,Ae⟩,rK,⟨Ae,Ae⟩,⟨Ae,Ae⟩,rK,⟨⟨Ae,Ae⟩,Ae,Ae⟩,Ae,Ae,Ae,Ae,Ae,fun x a=>by cases a⟩
theorem aw (k:Es Tryz.prog 117 [.d (Ph [])] (fun r=>∃(u:D) (n:Int),r= .tup [.d u,iv n]/\decide (n<0)=true)):aC 30 [Zc plT] (.tup [Hp 0 5 wX,iv 0]):=by
 have a:=Vg plT CL k
 rw[show S4 plT=true by decide+kernel] at a
 have l:=Ov 0 2 false [[1]] Aa Aa Ae Ae
 rw[show Ei 0 2 false [[1]].flatten=SW by decide+kernel] at l
 have i:=Pc ⟨Nt,[]⟩ ⟨Ae,Ae⟩ (by decide+kernel)
 rw[show Rl ⟨Nt,[]⟩=Qz by decide+kernel] at i
 have f:=Ty plN rK
 rw[Aj (by decide+kernel),show nmE plN=Yg by decide+kernel] at f
 have d:=II plY plZ (by unfold Tm.sm;decide) (by decide+kernel) (by unfold Tm.sm;decide) (by decide+kernel)
 rw[show lC plY plZ=SX by decide+kernel] at d
 have g:=vY plK ⟨⟨Ae,Ae⟩,Ae,Ae⟩ (by decide+kernel)
 rw[show PM plK=SY by decide+kernel] at g
 have j:=L8 [SW,Qz,Yg,SX,Yg,SY] Ae Ae
 rw[show Ei 0 16 true [SW,Qz,Yg,SX,Yg,SY].flatten=wX by decide+kernel] at j
 clear k
 have e:Zc plT= .agg [iv 0,.d (By false [1]),sx Nt,.d (By false []),.d (Kz plN),iv 2000,iv 1,iv 1,iv 0,iv 0,iv 0,iv 2050,iv 1,iv 1,iv 0,iv 0,iv 0,.d (Kz plN),sx mj,.d (By false []),.d (By false [160]),iv 5,bv false,.d (By false []),iv 0,bv false,.d (By false []),iv 0,.d (Ph [])]:=rfl
 rw[e] at a|-
 clear e
 refine acY 118 [29,84,34] Tryz.func30 rfl rfl fun _ _ _=> ?_
 (repeat'((conv=>whnf);first|refine Ee ?_|refine Jn 100 25 [29,84,34] Tryz.func29 rfl rfl rfl rfl rfl fun h=> ?_|refine Jn 300 29 [29,84,34] Tryz.func84 rfl rfl rfl rfl rfl fun h=> ?_|refine inY 500 20 [29,84,34] Tryz.func34 rfl rfl rfl rfl fun h=> ?_|refine Cs (Eb rfl rfl (ltN rfl) rfl) ?_|refine Al a rfl ?_|refine Al l rfl ?_|refine Al i rfl ?_|refine Al f rfl ?_|refine Al d rfl ?_|refine Al g rfl ?_|refine Al j rfl ?_|refine Qg Iw SW ?_|refine E4 Iw Qz ?_|refine E4 Iw Yg ?_|refine E4 Iw SX ?_|refine E4 Iw SY ?_|refine Cs (Sz 0 rfl rfl rfl (ltN rfl) rfl rfl) ?_|refine zF ?_|exact zE))
theorem CM:aC 32 [btA [] 0] (.tup [Hp 0 5 [0],iv 0]):=by
 have d:=Lv [] 0 Ae Ae
 rw[show Jd [] 0=true by decide+kernel] at d
 have a:=Ou [[0],[]] Ae Ae
 rw[show [[0],([]:List UInt8)].flatten=[0] from rfl] at a
 refine acQ 15 Tryz.func32 rfl rfl fun _ _ _=> ?_
 (repeat'((conv=>whnf);first|refine Ee ?_|refine Al d rfl ?_|refine Al a rfl ?_|(with_reducible refine NInt.u8 ?_)|exact zE))
theorem ax:aC 28 [.agg (ceC false Kz Ph plC)] (bv true):=by
 have e:=Vg plT CL (W7 [] Ae fun x f=>by cases f)
 rw[show S4 plT=true by decide+kernel] at e
 have a:=Y2 ⟨Nt,[]⟩ ⟨Nt,[]⟩ ⟨Ae,Ae⟩ ⟨Ae,Ae⟩
 rw[show((⟨Nt,[]⟩:Alg)==⟨Nt,[]⟩)=true by decide+kernel] at a
 have d:=Lv [] 0 Ae Ae
 rw[show Jd [] 0=true by decide+kernel] at d
 refine acQ 19 Tryz.func28 rfl rfl fun _ _ _=> ?_
 (repeat'((conv=>whnf);first|refine Ej ?_|refine Al e rfl ?_|refine Al a rfl ?_|refine Al d rfl ?_|exact zE))
theorem j5 (h:p:=by first|rfl|(simp only[D8,AV.ren,AV.give,D.un,Ef,D7,D6,Ap,Am,Ak,Ea,Ed,Ep,Eo,Ex,Fi,Ho,Ib,Hm,naA,seA,Fy,E8];first|done|rfl)):p:=h
theorem ay:aC 9 [.agg (ceC false Kz Ph plC)] (.tup [Hp 0 5 lO,iv 0]):=by
 have d:=aw (W7 [] Ae fun x j=>by cases j)
 have i:=ax
 have e:=Pc ⟨Nt,[]⟩ ⟨Ae,Ae⟩ (by decide+kernel)
 rw[show Rl ⟨Nt,[]⟩=Qz by decide+kernel] at e
 have k:=CM
 have f:=Ov 0 3 false [[0]] Aa Aa Ae Ae
 rw[show Ei 0 3 false [[0]].flatten=[3,1,0] by decide+kernel] at f
 have a:=L8 [wX,Qz,[3,1,0]] (by decide+kernel) Ae
 rw[show Ei 0 16 true [wX,Qz,[3,1,0]].flatten=lO by decide+kernel] at a
 have h:wX.length=87:=by decide+kernel
 generalize wX=T at d a h
 generalize lO=B at a|-
 refine acY 42 [29,34] Tryz.func9 rfl rfl fun _ _ _=> ?_
 (repeat'((conv=>whnf);first|refine Ee ?_|refine inY 100 25 [29,34] Tryz.func29 rfl rfl rfl rfl fun g=> ?_|refine inY 500 20 [29,34] Tryz.func34 rfl rfl rfl rfl fun g=> ?_|refine Cs (Eb rfl rfl (ltN rfl) rfl) ?_|refine Al i rfl ?_|refine Al d rfl ?_|refine Al e rfl ?_|refine Al k rfl ?_|refine Al f rfl ?_|refine Al a j5 ?_|refine Qg Iw T ?_|refine E4 Iw Qz ?_|refine E4 Iw [3,1,0] ?_|refine Cs (Sz 0 rfl rfl rfl (ltN rfl) rfl rfl) ?_|exact zE))
theorem wY (h:p:=by first|rfl|(simp only[D8,AV.ren,AV.give,D.un,Ef,D7,D6,Ap,Am,Ak,Ea,Ed,Ep,Eo,Ex,Fi,Ho,Ib,Hm,naA,seA,Fy,E8];first|done|rfl)):p:=h
theorem cb (a:Alg) (d:a.sm):aC 48 [alA a,alA a] (bv true):=by
 have f:=rB a.par a.par (by have:=d.p;omega) (by have:=d.p;omega)
 rw[show(a.par==a.par)=true from Da _] at f
 have e:(a.oid==a.oid)=true:=Da _
 refine acQ 17 Tryz.func48 rfl rfl fun _ _ _=> ?_
 (repeat'((conv=>whnf);first|refine zP ?_|refine zN ?_|refine Ej ?_|refine Ee ?_|refine Al f wY ?_|exact zE))
def lsC (a nm r x:D):List AV:=[iv 0,sx Nt,.d a,.d nm,iv 2000,iv 1,iv 1,iv 0,iv 0,iv 0,bv false,iv 0,iv 0,iv 0,iv 0,iv 0,iv 0,.d r,.d x]
abbrev lsA:AV:= .agg (lsC (By false []) (Kz plN) (.sl false 0 8 []) (Ph []))
abbrev crA:AV:= .agg (lsC (By false []) (Kz plN) (.sl false 0 8 []) (Ph [])++[sx Nt,.d (By false []),.d (By false []),iv 0])
theorem j6:aC 138 [.d (Ph [])] (bv true):=by
 have d:=W7 [] Ae fun x a=>by cases a
 refine acY 21 [117] Tryz.func138 rfl rfl fun _ _ _=> ?_
 (repeat'((conv=>whnf);first|refine Ej ?_|((refine No d 700 rfl rfl (ltN rfl) rfl rfl rfl wY ?_;rintro _ ⟨u,n,rfl,e⟩))|exact zE))
theorem wZ:aC 91 [lsA] (bv true):=by
 have e:=Rq ⟨Nt,[]⟩ ⟨Ae,Ae⟩
 rw[show X8 ⟨Nt,[]⟩=true by decide+kernel] at e
 have d:=lH plN rK
 rw[show nmV plN=true by decide+kernel] at d
 have a:=T2 plY ⟨Ae,Ae⟩
 rw[show plY.ok=true by decide+kernel] at a
 have f:=j6
 refine acQ 96 Tryz.func91 rfl rfl fun _ _ _=> ?_
 (repeat'((conv=>whnf);first|refine Ej ?_|refine Ee ?_|refine Al e rfl ?_|refine Al d rfl ?_|refine Al a rfl ?_|refine Al f rfl ?_|refine Cs (iL rfl rfl (ltN rfl) rfl rfl) ?_|((refine NStep.some (Ku 9 rfl rfl (ltN rfl)) ?_;rintro _ ⟨m,rfl⟩))|(refine Hv 1 ?_)|exact zE))
theorem mm:aC 36 [crA] (bv true):=by
 have e:=wZ
 have d:=cb ⟨Nt,[]⟩ ⟨Ae,Ae⟩
 have a:=Lv [] 0 Ae Ae
 rw[show Jd [] 0=true by decide+kernel] at a
 refine acQ 19 Tryz.func36 rfl rfl fun _ _ _=> ?_
 (repeat'((conv=>whnf);first|refine Ej ?_|refine Al e rfl ?_|refine Al d rfl ?_|refine Al a rfl ?_|exact zE))
def Od:List UInt8:=48::36::(Qz++(Yg++IV))
def S9:List UInt8:=48::47::(Od++(Qz++[3,1,0]))
theorem j7:aC 38 [lsA] (.tup [Hp 0 5 Od,iv 0]):=by
 have h:=wZ
 have f:=Pc ⟨Nt,[]⟩ ⟨Ae,Ae⟩ (by decide+kernel)
 rw[show Rl ⟨Nt,[]⟩=Qz by decide+kernel] at f
 have e:=Ty plN rK
 rw[Aj (by decide+kernel),show nmE plN=Yg by decide+kernel] at e
 have d:=Ya plY (by unfold Tm.sm;decide) (by decide+kernel)
 rw[show tmE plY=IV by decide+kernel] at d
 have a:=L8 [Qz,Yg,IV] Ae Ae
 rw[show Ei 0 16 true [Qz,Yg,IV].flatten=Od by decide+kernel] at a
 generalize Od=B at a|-
 refine acY 93 [37,39] Tryz.func38 rfl rfl fun _ _ _=> ?_
 (repeat'((conv=>whnf);first|refine Ee ?_|refine inY 100 25 [37,39] Tryz.func37 rfl rfl rfl rfl fun g=> ?_|refine inY 500 20 [37,39] Tryz.func39 rfl rfl rfl rfl fun g=> ?_|refine Cs (Eb rfl rfl (ltN rfl) rfl) ?_|refine Al h rfl ?_|refine Al f rfl ?_|refine Al e rfl ?_|refine Al d rfl ?_|refine Al a rfl ?_|refine Qg Iw Qz ?_|refine E4 Iw Yg ?_|refine E4 Iw IV ?_|refine Cs (Sz 0 rfl rfl rfl (ltN rfl) rfl rfl) ?_|exact zE))
theorem az:aC 11 [crA] (.tup [Hp 0 5 S9,iv 0]):=by
 have h:=mm
 have d:=j7
 have e:=Pc ⟨Nt,[]⟩ ⟨Ae,Ae⟩ (by decide+kernel)
 rw[show Rl ⟨Nt,[]⟩=Qz by decide+kernel] at e
 have i:=CM
 have f:=Ov 0 3 false [[0]] Aa Aa Ae Ae
 rw[show Ei 0 3 false [[0]].flatten=[3,1,0] by decide+kernel] at f
 have a:=L8 [Od,Qz,[3,1,0]] (by decide+kernel) Ae
 rw[show Ei 0 16 true [Od,Qz,[3,1,0]].flatten=S9 by decide+kernel] at a
 have j:Od.length=38:=by decide+kernel
 generalize Od=T at d a j
 generalize S9=B at a|-
 refine acY 42 [37,39] Tryz.func11 rfl rfl fun _ _ _=> ?_
 (repeat'((conv=>whnf);first|refine Ee ?_|refine inY 100 25 [37,39] Tryz.func37 rfl rfl rfl rfl fun g=> ?_|refine inY 500 20 [37,39] Tryz.func39 rfl rfl rfl rfl fun g=> ?_|refine Cs (Eb rfl rfl (ltN rfl) rfl) ?_|refine Al h rfl ?_|refine Al d rfl ?_|refine Al e rfl ?_|refine Al i rfl ?_|refine Al f rfl ?_|refine Al a wY ?_|refine Qg Iw T ?_|refine E4 Iw Qz ?_|refine E4 Iw [3,1,0] ?_|refine Cs (Sz 0 rfl rfl rfl (ltN rfl) rfl rfl) ?_|exact zE))
def inC (b:List UInt8) (l:List El):List AV:=[.d (By false b),.d (Gw l),iv 0,iv 0]
theorem rL (b:List UInt8) (l:List El) (o:Nat):PC Tryz.prog 94 900 5000 [.ptr 900 0,iv 0,iv o] (inC b l) (fun r cs=>r= .tup []/\cs=inC b l):=by
 refine pcP 5000 28 Tryz.func94 rfl rfl fun i _ _ _ e f g a h d=> ?_
 (repeat'((conv=>whnf);first|refine Ej ?_|refine Ee ?_|refine Cs (Eb rfl rfl (ltN rfl) rfl) ?_|exact z7))
theorem mn (b:List UInt8):PC Tryz.prog 47 900 3000 [.ptr 900 0,bv true] (inC b []) (fun r cs=>r=erA 0 0/\cs=inC b []):=by
 refine pcY 3000 28 [94] Tryz.func47 rfl rfl fun i _ _ _ e f g a h d=> ?_
 (repeat'((conv=>whnf);first|refine Ee ?_|refine cY ?_|refine Cs (Eb rfl rfl (ltN rfl) rfl) ?_|exact z7))
theorem lP (h:p:=by first|rfl|(simp only[D8,AV.ren,AV.give,D.un,Ef,D7,D6,Ap,Am,Ak,Ea,Ed,Ep,Eo,Ex,Fi,Ho,Ib,Hm,naA,seA,single,Vi];first|done|rfl)):p:=h
theorem SZ (b:List UInt8) (x:El) (r:List El) (u:b.length<=100000) (t:x.at'<=x.stop/\x.stop<=b.length) (f e:List UInt8) (g:aC 18 [.d (By false (elO b x))] (.tup [.agg [sx f,.d (By true e)],erA 0 0])):PC Tryz.prog 43 900 3000 [.ptr 900 0,.d (.fn 18 [])] (inC b (x::r)) (fun i cs=>i= .agg [sx f,.d (By true e)]/\cs=inC b r):=by
 obtain⟨d,a⟩:∃q,elO b x=q:=⟨_,rfl⟩
 rw[a] at g
 unfold elO at a
 have n:=rL b r x.at'
 refine pcY 3000 67 [94] Tryz.func43 rfl rfl fun s _ _ _ l m o k j h=> ?_
 (repeat'((conv=>whnf);first|refine Ee ?_|refine cY ?_|refine zG ?_|refine NLa.mk ⟨_,Hk rfl rfl (ltN rfl) rfl,?_⟩|refine Cs (Eb rfl rfl (ltN rfl) rfl) ?_|(refine Iv (fun _=>rfl) ?_)|(refine Ko (fun _=>rfl) ?_)|(refine NSl.bytes x.at' x.stop d a ?_)|refine Al g lP ?_|refine NInt.as (((x.at':Nat):Int)) ((by rw[Bl _ Aa];omega)) ?_|refine pQ n ?_|exact z7))
theorem j8 (b:List UInt8) (x:El) (r:List El) (t:b.length<=100000) (s:x.at'<=x.stop/\x.stop<=b.length) (n:List (List Att)) (e:aC 56 [.d (By false (elO b x))] (.tup [.d (gX n),erA 0 0])):PC Tryz.prog 99 900 3000 [.ptr 900 0,.d (.fn 56 [])] (inC b (x::r)) (fun g cs=>g= .d (gX n)/\cs=inC b r):=by
 obtain⟨d,a⟩:∃q,elO b x=q:=⟨_,rfl⟩
 rw[a] at e
 unfold elO at a
 have l:=rL b r x.at'
 refine pcY 3000 67 [94] Tryz.func99 rfl rfl fun o _ _ _ j k m i h f=> ?_
 (repeat'((conv=>whnf);first|refine Ee ?_|refine cY ?_|refine zG ?_|refine NLa.mk ⟨_,Hk rfl rfl (ltN rfl) rfl,?_⟩|refine Cs (Eb rfl rfl (ltN rfl) rfl) ?_|(refine Iv (fun _=>rfl) ?_)|(refine Ko (fun _=>rfl) ?_)|(refine NSl.bytes x.at' x.stop d a ?_)|refine Al e lP ?_|refine NInt.as (((x.at':Nat):Int)) ((by rw[Bl _ Aa];omega)) ?_|refine pQ l ?_|exact z7))
theorem j9 (b:List UInt8) (x:El) (r:List El) (s:b.length<=100000) (o:x.at'<=x.stop/\x.stop<=b.length) (e:aC 101 [.d (By false (elO b x))] (.tup [.agg [iv 2000,iv 1,iv 1,iv 0,iv 0,iv 0],erA 0 0])):PC Tryz.prog 100 900 3000 [.ptr 900 0,.d (.fn 101 [])] (inC b (x::r)) (fun g cs=>g= .agg [iv 2000,iv 1,iv 1,iv 0,iv 0,iv 0]/\cs=inC b r):=by
 obtain⟨d,a⟩:∃q,elO b x=q:=⟨_,rfl⟩
 rw[a] at e
 unfold elO at a
 have l:=rL b r x.at'
 refine pcY 3000 67 [94] Tryz.func100 rfl rfl fun n _ _ _ j k m i h f=> ?_
 (repeat'((conv=>whnf);first|refine Ee ?_|refine cY ?_|refine zG ?_|refine NLa.mk ⟨_,Hk rfl rfl (ltN rfl) rfl,?_⟩|refine Cs (Eb rfl rfl (ltN rfl) rfl) ?_|(refine Iv (fun _=>rfl) ?_)|(refine Ko (fun _=>rfl) ?_)|(refine NSl.bytes x.at' x.stop d a ?_)|refine Al e lP ?_|refine NInt.as (((x.at':Nat):Int)) ((by rw[Bl _ Aa];omega)) ?_|refine pQ l ?_|exact z7))
theorem ja (b:List UInt8) (x:El) (r:List El) (s:b.length<=100000) (o:x.at'<=x.stop/\x.stop<=b.length) (e:aC 42 [.d (By false (elO b x))] (.tup [.agg (lsC (By true []) (gX plN) (.v (.slice none 0 0)) (.v (.slice none 0 0))),erA 0 0])):PC Tryz.prog 41 900 3000 [.ptr 900 0,.d (.fn 42 [])] (inC b (x::r)) (fun g cs=>g= .agg (lsC (By true []) (gX plN) (.v (.slice none 0 0)) (.v (.slice none 0 0)))/\cs=inC b r):=by
 obtain⟨d,a⟩:∃q,elO b x=q:=⟨_,rfl⟩
 rw[a] at e
 unfold elO at a
 have l:=rL b r x.at'
 refine pcY 3000 67 [94] Tryz.func41 rfl rfl fun n _ _ _ j k m i h f=> ?_
 (repeat'((conv=>whnf);first|refine Ee ?_|refine cY ?_|refine zG ?_|refine NLa.mk ⟨_,Hk rfl rfl (ltN rfl) rfl,?_⟩|refine Cs (Eb rfl rfl (ltN rfl) rfl) ?_|(refine Iv (fun _=>rfl) ?_)|(refine Ko (fun _=>rfl) ?_)|(refine NSl.bytes x.at' x.stop d a ?_)|refine Al e lP ?_|refine NInt.as (((x.at':Nat):Int)) ((by rw[Bl _ Aa];omega)) ?_|refine pQ l ?_|exact z7))
abbrev lx1:El:=⟨0,16,true,2,4,8⟩
abbrev lx2:El:=⟨0,16,true,8,10,23⟩
abbrev lx3:El:=⟨0,23,false,23,25,38⟩
abbrev nl0:AV:= .d (.v (.slice none 0 0))
abbrev lsZ:List AV:=[iv 0,.d (.v (.string ⟨#[]⟩)),nl0,nl0,iv 0,iv 0,iv 0,iv 0,iv 0,iv 0,bv false,iv 0,iv 0,iv 0,iv 0,iv 0,iv 0,nl0,nl0]
abbrev lsR:List AV:=lsC (By true []) (gX plN) (.v (.slice none 0 0)) (.v (.slice none 0 0))
theorem jb (h:p:=by first|rfl|(simp only[D8,AV.ren,AV.give,D.un,Ef,D7,D6,Ap,Am,Ak,Ea,Ed,Ep,Eo,Ex,Fi,Ho,Ib,Hm,naA,seA,single,Vi,lsC];first|done|rfl)):p:=h
theorem jc (h:p:=by((try simp only[D8,AV.ren,AV.give,D.un,Ef,D7,D6,Ap,Am,Ak,Ea,Ed,Ep,Eo,Ex,Fi,Ho,Ib,Hm,naA,seA,single,Vi,lsC]);(repeat'(first|exact trivial|exact Er _|refine A1 ?_ ?_|exact rfl|exact Cv rfl|exact Cz rfl|exact Cz Ah|omega|refine Cv ?_));first|done|fail)):p:=h
theorem jd:aC 42 [.d (By false Od)] (.tup [.agg lsR,erA 0 0]):=by
 have lb:Od.length=38:=by decide+kernel
 have d:=Fc Od 0 16 Aa
 rw[show Dn Od 0 16=⟨[lx1,lx2,lx3],0,0⟩ by kernel_rfl] at d
 have d:aC 49 [.d (By false Od),iv (0:Nat),iv (16:Nat)] (.tup [.d (Gw [lx1,lx2,lx3]),erA 0 0]):=d
 have e:=Rr (elO Od lx1) (by rw[show(elO Od lx1).length=6 by decide+kernel];decide)
 rw[show Ju (elO Od lx1)=(⟨Nt,[]⟩,0,0) by decide+kernel] at e
 have g:=X1 (elO Od lx2) (by rw[show(elO Od lx2).length=15 by decide+kernel];decide)
 rw[show nmR (elO Od lx2)=(some plN,0,0) by decide+kernel] at g
 have f:=Yb (elO Od lx3) (by rw[show(elO Od lx3).length=15 by decide+kernel];decide)
 rw[show tmO (elO Od lx3)=(some plY,0,0) by decide+kernel] at f
 generalize Od=b at lb d e g f|-
 have i:=SZ b lx1 [lx2,lx3] Aa ⟨Ae,by show 8<=_;omega⟩ Nt [] e
 have j:=j8 b lx2 [lx3] Aa ⟨Ae,by show 23<=_;omega⟩ plN g
 have m:=j9 b lx3 [] Aa ⟨Ae,by show 38<=_;omega⟩ f
 have l:=mn b
 have k:=wZ
 have h:=Fo lx1 0 2 false
 rw[show lx1.isB 0 2 false=false from rfl] at h
 refine acY 58 [40,95,141,171,142,47,43,99,100] Tryz.func42 rfl rfl fun _ _ _=> ?_
 (all_goals(conv=>whnf))
 refine G6 ⟨[(0,.d (By false b)),(2,.ptr 2 0),(3,.ptr 3 0),(8,.ptr 900 0)],[(2,lsZ),(3,[iv 0,iv 0]),(900,inC b [lx1,lx2,lx3])],[]⟩ ?_ ?_
 ·(repeat'((conv=>whnf);first|refine inY 886 15 [40,95,141,171,142,47,43,99,100] Tryz.func40 rfl rfl rfl rfl fun a=> ?_|refine Al d jb ?_));(all_goals(conv=>whnf))
  all_goals exact J6
 (all_goals(conv=>whnf))
 refine G6 ⟨[(2,.ptr 2 0),(3,.ptr 3 0),(4,.ptr 900 0),(5,.ptr 5 0),(11,bv false)],[(2,lsZ),(3,[iv 0,iv 0]),(5,lsZ),(900,inC b [lx1,lx2,lx3])],[]⟩ ?_ ?_
 ·(repeat'((conv=>whnf);first|refine Ej ?_|refine Ee ?_|refine inY 100 26 [40,95,141,171,142,47,43,99,100] Tryz.func95 rfl rfl rfl rfl fun a=> ?_|refine inY 200 9 [40,95,141,171,142,47,43,99,100] Tryz.func141 rfl rfl rfl rfl fun a=> ?_|refine inY 300 19 [40,95,141,171,142,47,43,99,100] Tryz.func171 rfl rfl rfl rfl fun a=> ?_|refine Jn 400 14 [40,95,141,171,142,47,43,99,100] Tryz.func142 rfl rfl rfl rfl rfl fun a=> ?_|(refine Hv 2 ?_)|(refine Cv ?_)|(refine Iv (fun _=>rfl) ?_)|(refine Hf _ ?_ rfl (Ay rfl))|refine Al h rfl ?_|refine NLa.mk ⟨_,Hk rfl rfl (ltN rfl) rfl,?_⟩|refine Cs (Eb rfl rfl (ltN rfl) rfl) ?_|(with_reducible refine NInt.i64 ?_)|refine zF ?_));(all_goals(conv=>whnf))
  all_goals exact J6
 (repeat'((conv=>whnf);first|refine Ee ?_|refine pQ i ?_|refine pQ j ?_|refine pQ m ?_));(all_goals(conv=>whnf))
 refine G6 ⟨[(2,.ptr 2 0),(3,.ptr 3 0),(4,.ptr 900 0),(5,.ptr 5 0),(27,bv false)],[(2,lsZ),(3,[iv 0,iv 0]),(5,lsR),(900,inC b [])],[]⟩ ?_ ?_
 ·(repeat'((conv=>whnf);first|refine Ej ?_|refine Ee ?_|refine inY 100 26 [40,95,141,171,142,47,43,99,100] Tryz.func95 rfl rfl rfl rfl fun a=> ?_|refine Cs (Eb rfl rfl (ltN rfl) rfl) ?_));(all_goals(conv=>whnf))
  all_goals exact J6
 (repeat'((conv=>whnf);refine Ee ?_));(all_goals(conv=>whnf))
 refine G6 ⟨[(2,.ptr 2 0),(3,.ptr 3 0),(4,.ptr 900 0),(5,.ptr 5 0),(34,bv false)],[(2,lsZ),(3,[iv 0,iv 0]),(5,lsR),(900,inC b [])],[]⟩ ?_ ?_
 ·(repeat'((conv=>whnf);first|refine Ej ?_|refine Ee ?_|refine inY 100 26 [40,95,141,171,142,47,43,99,100] Tryz.func95 rfl rfl rfl rfl fun a=> ?_|refine Cs (Eb rfl rfl (ltN rfl) rfl) ?_));(all_goals(conv=>whnf))
  all_goals exact J6
 (repeat'((conv=>whnf);first|refine Ee ?_|refine Cs (Eb rfl rfl (ltN rfl) rfl) ?_|refine H0 k jc ?_|refine pQ l ?_|exact zE))
abbrev cx1:El:=⟨0,16,true,2,4,40⟩
abbrev cx2:El:=⟨0,16,true,40,42,46⟩
abbrev cx3:El:=⟨0,3,false,46,48,49⟩
abbrev crZ:List AV:=lsZ++[.d (.v (.string ⟨#[]⟩)),nl0,nl0,iv 0]
def crR:List AV:=lsR++[sx Nt,.d (By true []),.d (By true []),iv 0]
abbrev bt0:AV:= .agg [.d (By true []),iv 0]
abbrev cb1:AV:= .d (.cp false [.v (.int .i64 3)])
abbrev cb2:AV:= .d (.cp false [.fn 46 []])
abbrev cbC:AV:= .cl 106 [] [cb1,cb2]
theorem rn:aC 106 [.d (By false [3,1,0]),cb1,cb2] (.tup [bt0,erA 0 0]):=by
 have e:=Hj [3,1,0] Ae
 rw[show Em [3,1,0]=⟨⟨0,3,false,0,2,3⟩,0,0⟩ by kernel_rfl] at e
 have a:=Fo ⟨0,3,false,0,2,3⟩ 0 3 false
 rw[show(⟨0,3,false,0,2,3⟩:El).isB 0 3 false=true from rfl] at a
 have d:=Qs [0] Ae
 rw[show dcB [0]=some ([],0) from rfl] at d
 refine acQ 41 Tryz.func106 rfl rfl fun _ _ _=> ?_
 (repeat'((conv=>whnf);first|refine Ee ?_|(refine NSl.bytes 2 3 [0] rfl ?_)|refine Al e rfl ?_|refine Al a rfl ?_|refine Al d rfl ?_|refine zF ?_|exact zE))
theorem rp:aC 45 [iv 3,.d (.fn 46 [])] cbC:=by
 refine acQ 6 Tryz.func45 rfl rfl fun _ _ _=> ?_
 (all_goals(conv=>whnf))
 all_goals exact zE
theorem je (b:List UInt8) (x:El) (o:b.length<=100000) (n:x.at'<=x.stop/\x.stop<=b.length) (l:(b.drop x.at').take (x.stop-x.at')=[3,1,0]):PC Tryz.prog 44 900 3000 [.ptr 900 0,cbC] (inC b [x]) (fun d cs=>d=bt0/\cs=inC b []):=by
 have g:=rn
 have j:=rL b [] x.at'
 refine pcY 3000 67 [94] Tryz.func44 rfl rfl fun m _ _ _ h i k f e a=> ?_
 (repeat'((conv=>whnf);first|refine Ee ?_|refine cY ?_|refine zG ?_|refine NLa.mk ⟨_,Hk rfl rfl (ltN rfl) rfl,?_⟩|refine Cs (Eb rfl rfl (ltN rfl) rfl) ?_|(refine Iv (fun _=>rfl) ?_)|(refine Ko (fun _=>rfl) ?_)|(refine NSl.bytes x.at' x.stop [3,1,0] l ?_)|refine Al g rfl ?_|refine NInt.as (((x.at':Nat):Int)) ((by rw[Bl _ Aa];omega)) ?_|refine pQ j ?_|exact z7))
theorem jf (h:p:=by first|rfl|(simp only[D8,AV.ren,AV.give,D.un,Ef,D7,D6,Ap,Am,Ak,Ea,Ed,Ep,Eo,Ex,Fi,Ho,Ib,Hm,naA,seA,single,Vi,lsC];first|done|rfl)):p:=h
theorem ba:aC 13 [.d (By false S9)] (.tup [.agg crR,erA 0 0]):=by
 have lb:S9.length=49:=by decide+kernel
 have a:=Fc S9 0 16 Aa
 rw[show Dn S9 0 16=⟨[cx1,cx2,cx3],0,0⟩ by kernel_rfl] at a
 have a:aC 49 [.d (By false S9),iv (0:Nat),iv (16:Nat)] (.tup [.d (Gw [cx1,cx2,cx3]),erA 0 0]):=a
 have d:=jd
 rw[show Od=elO S9 cx1 by decide+kernel] at d
 have e:=Rr (elO S9 cx2) (by rw[show(elO S9 cx2).length=6 by decide+kernel];decide)
 rw[show Ju (elO S9 cx2)=(⟨Nt,[]⟩,0,0) by decide+kernel] at e
 have f:(S9.drop 46).take 3=[3,1,0]:=by decide+kernel
 generalize S9=b at lb a d e f|-
 have g:=ja b cx1 [cx2,cx3] Aa ⟨Ae,by show 40<=_;omega⟩ d
 have i:=SZ b cx2 [cx3] Aa ⟨Ae,by show 46<=_;omega⟩ Nt [] e
 have l:=je b cx3 Aa ⟨Ae,by show 49<=_;omega⟩ f
 have k:=rp
 have j:=mn b
 have h:=cb ⟨Nt,[]⟩ ⟨Ae,Ae⟩
 refine acY 34 [40,47,41,43,44] Tryz.func13 rfl rfl fun _ _ _=> ?_
 (all_goals(conv=>whnf))
 refine G6 ⟨[(0,.d (By false b)),(2,.ptr 2 0),(3,.ptr 3 0),(8,.ptr 900 0)],[(2,crZ),(3,[iv 0,iv 0]),(900,inC b [cx1,cx2,cx3])],[]⟩ ?_ ?_
 ·(repeat'((conv=>whnf);first|refine inY 886 15 [40,47,41,43,44] Tryz.func40 rfl rfl rfl rfl fun m=> ?_|refine Al a jf ?_));(all_goals(conv=>whnf))
  all_goals exact J6
 (repeat'((conv=>whnf);first|refine Ee ?_|refine pQ g ?_|refine pQ i ?_|refine Al k rfl ?_|refine pQ l ?_|refine Al h rfl ?_|refine pQ j ?_|exact zE))
theorem TA:aC 35 [] (.d (gX plN)):=by
 refine acQ 5 Tryz.func35 rfl rfl fun _ _ _=> ?_
 (all_goals(conv=>whnf))
 all_goals exact zE
theorem bb:aC 10 [] (ceQ plC):=by
 have a:=TA
 refine acQ 20 Tryz.func10 rfl rfl fun _ _ _=> ?_
 (repeat'((conv=>whnf);first|refine Al a rfl ?_|refine zF ?_|exact zE))
theorem jg:aC 12 [] (.agg crR):=by
 have a:=TA
 refine acQ 9 Tryz.func12 rfl rfl fun _ _ _=> ?_
 (repeat'((conv=>whnf);first|refine Al a rfl ?_|refine zF ?_|exact zE))
theorem TB (h:p:=by first|rfl|(simp only[D8,AV.ren,AV.give,D.un,Ef,D7,D6,Ap,Am,Ak,Ea,Ed,Ep,Eo,Ex,Fi,Ho,Ib,Hm,naA,seA,single,Vi];first|done|rfl)):p:=h
theorem TC (h:p:=by((try simp only[D8,AV.ren,AV.give,D.un,Ef,D7,D6,Ap,Am,Ak,Ea,Ed,Ep,Eo,Ex,Fi,Ho,Ib,Hm,naA,seA,single,Vi]);(repeat'(first|exact trivial|exact Er _|refine A1 ?_ ?_|exact rfl|exact Cv rfl|exact Cz rfl|exact Cz Ah|omega|refine Cv ?_));first|done|fail)):p:=h
theorem mp:aC 4 [] (bv true):=by
 have l:=bb
 have j:=jg
 have f:=ay
 have e:=az
 have a:=rJ lO (by decide+kernel)
 rw[show Rn S4 lO=(plC,0,0) by kernel_rfl] at a
 have a:aC 5 [.d (By false lO)] (.tup [ceQ plC,erA 0 0]):=a
 have g:=ba
 have h:lO.length=98:=by decide+kernel
 have d:S9.length=49:=by decide+kernel
 have k:decide ((lO.length:Int)>90)=true:=by rw[h];rfl
 have i:((S9.length:Int)==49)=true:=by rw[d];rfl
 generalize lO=B at f a k h
 generalize S9=R at e g i d
 refine acQ 67 Tryz.func4 rfl rfl fun _ _ _=> ?_
 (repeat'((conv=>whnf);first|refine zP ?_|refine zN ?_|refine Ej ?_|refine Ee ?_|refine Al l rfl ?_|refine Al j rfl ?_|refine H0 f TC ?_|refine H0 e TC ?_|refine Al a TB ?_|refine Al g TB ?_|refine Cs (ES rfl rfl (ltN rfl) rfl rfl) ?_|exact zE))
theorem jh (b:List UInt8) (a:b.length<=big):aC 3 [.d (By false b)] (bv true):=au mp b a
end Go.Proofs.YtbedjionhmaafaaGreatDoor
