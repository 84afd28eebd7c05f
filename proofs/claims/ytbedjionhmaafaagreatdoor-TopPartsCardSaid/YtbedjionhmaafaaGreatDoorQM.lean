/- QM: KyL1 KyL2 KyL3 KyL4 KyL Dcg Dci Dca Cpb. No condition. -/
import Derived.Test.YtbedjionhmaafaaGreatDoorQH
import Derived.Test.YtbedjionhmaafaaGreatDoorQK
import Derived.Test.YtbedjionhmaafaaGreatDoorQG
set_option linter.all false
namespace Go.Proofs.YtbedjionhmaafaaGreatDoor
open Go.RowKit
set_option maxRecDepth 100000
set_option maxHeartbeats 16000000
variable {p:Prop} {l l2 l1:List El} {has:Bool} {id ser:List UInt8} {c o:Nat} {iss:List Gn}
abbrev kdQ (k:Kd):AV:= .agg [bv k.has,.d (By true k.id),.d (Nl k.iss),.d (By true k.ser)]
def kyR:Option Kd×Nat×Nat->AV
 |(some k,_)=> .tup [kdQ k,erA 0 0]
 |(none,c,o)=> .tup [.agg [bv false,Ff,Ff,Ff],erA c o]
theorem Qx {P:Program} {C:Cx} {o:Oper} {σ:AS} {t:Nat} {x:Operand} {k i:Nat} (b:o.op= .nilCheck x) (g:o.dst=some t) (d:t<C.N) (f:σ.eval x=some (.ptr k i)):Fp P C o σ (σ.put t (.ptr k i)):=
 E1 g d fun a w bm gt fp e=>by
  have h:=e.eval f
  generalize j:a.eval x=v at h
  cases h with
  |ptr=>exact⟨_,by simp only[execOp,b,j];rfl,.ptr⟩
theorem rI {a:Type} (x:a) (r:List a):((x::r).drop 1).take ((x::r).length-1)=r:=Ab
theorem S7 (c:List UInt8) (h:c.length<=800000):aC 88 [.d (I9 [c])] (.tup [Hp 0 5 (Ei 0 16 true c),iv 0]):=by
 have a:=L8 [c] Af Ab
 rwa[show [c].flatten=c by simp] at a
theorem Ir (h:p:=by first|rfl|(simp only[D8,AV.ren,AV.give,D.un,Ef,D7,D6,Ap,Am,Ak,Ea,Ed,G2,F8,Ex,Gv,Ha,I4,Fi,Fy,E8,Ep,Eo,Pr,Oa,Md];first|done|rfl)):p:=h
theorem SH (h:p:=by((try simp only[D8,AV.ren,AV.give,D.un,Ef,D7,D6,Ap,Am,Ak,Ea,Ed,G2,F8,Ex,Gv,Ha,I4,Fi,Fy,E8,Ep,Eo,Pr,Oa,Md]);(repeat'(first|exact trivial|exact Er _|refine A1 ?_ ?_|exact rfl|exact Cv rfl|exact Cz rfl|exact Cz Ah|omega|refine Cv ?_));first|done|fail)):p:=h
def kyA (b:List UInt8) (l:List El) (has:Bool) (id:List UInt8) (l1:List El):Prop:=(l=[]/\l1=[]/\has=false/\id=[])\/(∃x r,l=x::r/\l1=x::r/\has=false/\id=[]/\(!x.isB 2 0 false)=true)\/(∃x0,l=x0::l1/\has=true/\id=bod b x0/\(!x0.isB 2 0 false)=false/\x0.body<=x0.stop/\x0.stop<=b.length)
def kyB (b:List UInt8) (l1:List El) (iss:List Gn) (l2:List El):Prop:=(l1=[]/\l2=[]/\iss=[])\/(∃y s,l1=y::s/\l2=y::s/\iss=[]/\(!y.isB 2 1 true)=true)\/(∃x1,l1=x1::l2/\(!x1.isB 2 1 true)=false/\x1.body<=x1.stop/\x1.stop<=b.length/\aC 201 [.d (By false (Ei 0 16 true (bod b x1)))] (.tup [.d (Nl iss),erA 0 0]))
def kyC (b:List UInt8) (l2:List El) (ser:List UInt8) (l3:List El):Prop:=(l2=[]/\l3=[]/\ser=[])\/(∃z u,l2=z::u/\l3=z::u/\ser=[]/\(!z.isB 2 2 false)=true)\/(∃x2,l2=x2::l3/\ser=bod b x2/\(!x2.isB 2 2 false)=false/\x2.body<=x2.stop/\x2.stop<=b.length/\(((bod b x2).length:Int)==0)=false)
abbrev kyH (b:List UInt8) (l:List El):Prop:=aC 49 [.d (By false b),iv (0:Nat),iv (16:Nat)] (.tup [.d (Gw l),erA 0 0])
theorem ZZ (b:List UInt8) (y:b.length<=390000) (g:kyH b l) {d:El} (i:kyA b l has id (d::l2)) (w:(!d.isB 2 1 true)=false) (s:d.body<=d.stop) (t:d.stop<=b.length) (u:((c:Int) !=0)=true) (j:aC 201 [.d (By false (Ei 0 16 true (bod b d)))] (.tup [Ff,erA c o])):aC 241 [.d (By false b)] (kyR (none,6,d.body)):=by
 have e:∀a n,((b.drop a).take n).length<=390000:=fun a n=>by rw[Ec,Eh];omega
 unfold kyH at g
 unfold kyA bod at i
 unfold bod at j
 rcases i with⟨rfl,h,-,-⟩|⟨x,r,rfl,h,rfl,rfl,k⟩|⟨f,rfl,rfl,rfl,k,m,v⟩
 ·cases h
 all_goals try cases h
 all_goals
  refine acQ 127 Tryz.func241 rfl rfl fun _ _ _=> ?_
  (repeat'((conv=>whnf);first|refine zP ?_|refine zN ?_|refine Ej ?_|refine Ee ?_|refine Al g Ir ?_|refine Al ((Fo _ 2 0 false)) rfl ?_|refine Al ((Fo _ 2 1 true)) rfl ?_|refine NIdx.tab (fun _=>rfl) rfl ?_|(refine NSl.tab (fun _=>rfl) 1 _ _ (rI _ _) ?_)|refine NSl.slice (f.body) (f.stop) ?_|refine NSl.slice (d.body) (d.stop) ?_|refine Al ((Gq ((b.drop _).take _) (Bi (e _ _) Aa))) Ir ?_|refine Al ((S7 ((b.drop _).take _) (Bi (e _ _) Aa))) Ir ?_|refine Al j Ir ?_|refine Cs (Qx rfl rfl (ltN rfl) rfl) ?_|(refine NStep.inl 200 43 _ Eg mixed rfl rfl rfl Tryz.func313 rfl Ac rfl rfl rfl rfl (fun q=> ?_))|refine zF ?_|exact zE))
theorem a8 (b:List UInt8) (F:b.length<=390000) (g:kyH b l) {d:El} {q:List El} (i:kyA b l has id l1) (k:kyB b l1 iss (d::q)) (E:(!d.isB 2 2 false)=false) (v1:d.body<=d.stop) (v2:d.stop<=b.length) (f:(((bod b d).length:Int)==0)=true):aC 241 [.d (By false b)] (kyR (none,6,d.body)):=by
 have e:∀a n,((b.drop a).take n).length<=390000:=fun a n=>by rw[Ec,Eh];omega
 unfold kyH at g
 unfold kyA bod at i
 unfold kyB bod at k
 unfold bod at f
 rcases k with⟨-,h,-⟩|⟨y,s,rfl,h,rfl,t⟩|⟨m,rfl,t,C,w,u⟩
 ·cases h
 all_goals try cases h
 all_goals rcases i with⟨rfl,h,-,-⟩|⟨x,r,rfl,h,rfl,rfl,v⟩|⟨j,rfl,rfl,rfl,v,A,z⟩
 all_goals try cases h
 all_goals
  refine acQ 127 Tryz.func241 rfl rfl fun _ _ _=> ?_
  (repeat'((conv=>whnf);first|refine zP ?_|refine zN ?_|refine Ej ?_|refine Ee ?_|refine Al g Ir ?_|refine Al ((Fo _ 2 0 false)) rfl ?_|refine Al ((Fo _ 2 1 true)) rfl ?_|refine Al ((Fo _ 2 2 false)) rfl ?_|refine NIdx.tab (fun _=>rfl) rfl ?_|(refine NSl.tab (fun _=>rfl) 1 _ _ (rI _ _) ?_)|refine NSl.slice (j.body) (j.stop) ?_|refine NSl.slice (m.body) (m.stop) ?_|refine NSl.slice (d.body) (d.stop) ?_|refine Al ((Gq ((b.drop _).take _) (Bi (e _ _) Aa))) Ir ?_|refine Al ((S7 ((b.drop _).take _) (Bi (e _ _) Aa))) Ir ?_|refine Al u Ir ?_|refine Cs (Qx rfl rfl (ltN rfl) rfl) ?_|(refine NStep.inl 200 43 _ Eg mixed rfl rfl rfl Tryz.func313 rfl Ac rfl rfl rfl rfl (fun B=> ?_))|refine zF ?_|exact zE))
theorem a9 (b:List UInt8) (M:b.length<=390000) (i:kyH b l) {w:El} {v:List El} (j:kyA b l has id l1) (q:kyB b l1 iss l2) (k:kyC b l2 ser (w::v)):aC 241 [.d (By false b)] (kyR (none,3,w.at')):=by
 have d:∀a n,((b.drop a).take n).length<=390000:=fun a n=>by rw[Ec,Eh];omega
 unfold kyH at i
 unfold kyA bod at j
 unfold kyB bod at q
 unfold kyC bod at k
 rcases k with⟨-,h,-⟩|⟨z,u,rfl,h,rfl,C⟩|⟨f,rfl,rfl,C,v1,v2,A⟩
 ·cases h
 all_goals try cases h
 all_goals rcases q with⟨rfl,h,rfl⟩|⟨y,s,rfl,h,rfl,B⟩|⟨t,rfl,B,L,H,E⟩
 all_goals try cases h
 all_goals rcases j with⟨rfl,h,rfl,rfl⟩|⟨x,r,rfl,h,rfl,rfl,F⟩|⟨m,rfl,rfl,rfl,F,J,I⟩
 all_goals try cases h
 all_goals
  refine acQ 127 Tryz.func241 rfl rfl fun _ _ _=> ?_
  (repeat'((conv=>whnf);first|refine zP ?_|refine zN ?_|refine Ej ?_|refine Ee ?_|refine Al i Ir ?_|refine Al ((Fo _ 2 0 false)) rfl ?_|refine Al ((Fo _ 2 1 true)) rfl ?_|refine Al ((Fo _ 2 2 false)) rfl ?_|refine NIdx.tab (fun _=>rfl) rfl ?_|(refine NSl.tab (fun _=>rfl) 1 _ _ (rI _ _) ?_)|refine NSl.slice (m.body) (m.stop) ?_|refine NSl.slice (t.body) (t.stop) ?_|refine NSl.slice (f.body) (f.stop) ?_|refine Al ((Gq ((b.drop _).take _) (Bi (d _ _) Aa))) Ir ?_|refine Al ((S7 ((b.drop _).take _) (Bi (d _ _) Aa))) Ir ?_|refine Al E Ir ?_|refine Cs (Qx rfl rfl (ltN rfl) rfl) ?_|(refine NStep.inl 200 43 _ Eg mixed rfl rfl rfl Tryz.func313 rfl Ac rfl rfl rfl rfl (fun K=> ?_))|refine zF ?_|(refine NBr.mk (fun g=> ?_) (fun g=> ?_)<;>(have e:=g;(try simp only[zS] at e)<;>first|(exfalso;omega)|skip))|exact zE))
theorem aa (b:List UInt8) (J:b.length<=390000) (f:kyH b l) (g:kyA b l has id l1) (m:kyB b l1 iss l2) (j:kyC b l2 ser []) (i:aC 311 [kdA ⟨has,id,iss,ser⟩] (bv true)):aC 241 [.d (By false b)] (kyR (some ⟨has,id,iss,ser⟩,0,0)):=by
 have d:∀a n,((b.drop a).take n).length<=390000:=fun a n=>by rw[Ec,Eh];omega
 unfold kyH at f
 unfold kyA bod at g
 unfold kyB bod at m
 unfold kyC bod at j
 rcases j with⟨rfl,h,rfl⟩|⟨z,u,rfl,h,rfl,w⟩|⟨e,rfl,rfl,w,v1,v2,t⟩
 all_goals try cases h
 all_goals rcases m with⟨rfl,h,rfl⟩|⟨y,s,rfl,h,rfl,v⟩|⟨q,rfl,v,I,C,A⟩
 all_goals try cases h
 all_goals rcases g with⟨rfl,h,rfl,rfl⟩|⟨x,r,rfl,h,rfl,rfl,B⟩|⟨k,rfl,rfl,rfl,B,F,E⟩
 all_goals try cases h
 all_goals
  refine acQ 127 Tryz.func241 rfl rfl fun _ _ _=> ?_
  (repeat'((conv=>whnf);first|refine zP ?_|refine zN ?_|refine Ej ?_|refine Ee ?_|refine Al f Ir ?_|refine Al ((Fo _ 2 0 false)) rfl ?_|refine Al ((Fo _ 2 1 true)) rfl ?_|refine Al ((Fo _ 2 2 false)) rfl ?_|refine NIdx.tab (fun _=>rfl) rfl ?_|(refine NSl.tab (fun _=>rfl) 1 _ _ (rI _ _) ?_)|refine NSl.slice (k.body) (k.stop) ?_|refine NSl.slice (q.body) (q.stop) ?_|refine NSl.slice (e.body) (e.stop) ?_|refine Al ((Gq ((b.drop _).take _) (Bi (d _ _) Aa))) Ir ?_|refine Al ((S7 ((b.drop _).take _) (Bi (d _ _) Aa))) Ir ?_|refine Al A Ir ?_|refine Al i Ir ?_|refine H0 i SH ?_|refine Cs (Qx rfl rfl (ltN rfl) rfl) ?_|(refine NStep.inl 200 43 _ Eg mixed rfl rfl rfl Tryz.func313 rfl Ac rfl rfl rfl rfl (fun H=> ?_))|exact zE))
theorem ac (b:List UInt8) (J:b.length<=390000) (f:kyH b l) (g:kyA b l has id l1) (m:kyB b l1 iss l2) (j:kyC b l2 ser []) (i:aC 311 [kdA ⟨has,id,iss,ser⟩] (bv false)):aC 241 [.d (By false b)] (kyR (none,6,0)):=by
 have d:∀a n,((b.drop a).take n).length<=390000:=fun a n=>by rw[Ec,Eh];omega
 unfold kyH at f
 unfold kyA bod at g
 unfold kyB bod at m
 unfold kyC bod at j
 rcases j with⟨rfl,h,rfl⟩|⟨z,u,rfl,h,rfl,w⟩|⟨e,rfl,rfl,w,v1,v2,t⟩
 all_goals try cases h
 all_goals rcases m with⟨rfl,h,rfl⟩|⟨y,s,rfl,h,rfl,v⟩|⟨q,rfl,v,I,C,A⟩
 all_goals try cases h
 all_goals rcases g with⟨rfl,h,rfl,rfl⟩|⟨x,r,rfl,h,rfl,rfl,B⟩|⟨k,rfl,rfl,rfl,B,F,E⟩
 all_goals try cases h
 all_goals
  refine acQ 127 Tryz.func241 rfl rfl fun _ _ _=> ?_
  (repeat'((conv=>whnf);first|refine zP ?_|refine zN ?_|refine Ej ?_|refine Ee ?_|refine Al f Ir ?_|refine Al ((Fo _ 2 0 false)) rfl ?_|refine Al ((Fo _ 2 1 true)) rfl ?_|refine Al ((Fo _ 2 2 false)) rfl ?_|refine NIdx.tab (fun _=>rfl) rfl ?_|(refine NSl.tab (fun _=>rfl) 1 _ _ (rI _ _) ?_)|refine NSl.slice (k.body) (k.stop) ?_|refine NSl.slice (q.body) (q.stop) ?_|refine NSl.slice (e.body) (e.stop) ?_|refine Al ((Gq ((b.drop _).take _) (Bi (d _ _) Aa))) Ir ?_|refine Al ((S7 ((b.drop _).take _) (Bi (d _ _) Aa))) Ir ?_|refine Al A Ir ?_|refine Al i Ir ?_|refine H0 i SH ?_|refine Cs (Qx rfl rfl (ltN rfl) rfl) ?_|(refine NStep.inl 200 43 _ Eg mixed rfl rfl rfl Tryz.func313 rfl Ac rfl rfl rfl rfl (fun H=> ?_))|exact zE))
theorem IT (b:List UInt8) (M:b.length<=390000):aC 241 [.d (By false b)] (kyR (kyO b)):=by
 have q:=Fc b 0 16 Aa
 have f:=fun x=>Ez (b:=b) (c:=0) (n:=16) (x:=x)
 unfold kyO
 generalize Dn b 0 16=R at q f|-
 obtain⟨l,rc,ro⟩:=R
 simp only at f|-
 by_cases N:rc≠0
 ·rw[Aj N]
  rw[lrA,Aj N] at q
  have gc:((rc:Int) !=0)=true:=by rw[Av];omega
  refine acQ 127 Tryz.func241 rfl rfl fun _ _ _=> ?_
  (repeat'((conv=>whnf);first|refine zP ?_|refine Al q Ir ?_|refine zF ?_|exact zE))
 rw[Ai N]
 rw[lrA,Ai N] at q
 have t:∀a n,((b.drop a).take n).length<=390000:=fun a n=>by rw[Ec,Eh];omega
 obtain⟨has,id,l1,e0,d,K,F⟩:∃has id l1,ky0 b l=ky1 b has id l1/\(∀x∈l1,x.at'+2<=x.body/\x.body<=x.stop/\x.stop<=b.length)/\id.length<=390000/\((l=[]/\l1=[]/\has=false/\id=[])\/(∃x r,l=x::r/\l1=x::r/\has=false/\id=[]/\(!x.isB 2 0 false)=true)\/(∃I,l=I::l1/\has=true/\id=bod b I/\(!I.isB 2 0 false)=false/\I.body<=I.stop/\I.stop<=b.length)):=by
  match l,f with
  |[],_=>exact⟨false,[],[],rfl,(fun x h=>by cases h),Ab,.inl ⟨rfl,rfl,rfl,rfl⟩⟩
  |x::r,f=>
   cases h:x.isB 2 0 false
   ·exact⟨false,[],x::r,by rw[ky0,Ai (by rw[h];simp)],f,Ab,.inr (.inl ⟨x,r,rfl,rfl,rfl,rfl,by rw[h];rfl⟩)⟩
   ·obtain⟨-,B,A⟩:=f x Ab
    exact⟨true,bod b x,r,by rw[ky0,Aj h],(fun z Z=>f z (by simp[Z])),t _ _,.inr (.inr ⟨x,rfl,rfl,rfl,by rw[h];rfl,B,A⟩)⟩
 rw[e0]
 clear e0 f
 have X:(∃k l2,∃c o:Nat,l1=k::l2/\(!k.isB 2 1 true)=false/\k.body<=k.stop/\k.stop<=b.length/\((c:Int) !=0)=true/\aC 201 [.d (By false (Ei 0 16 true (bod b k)))] (.tup [Ff,erA c o])/\ky1 b has id l1=(none,6,k.body))\/(∃iss l2,ky1 b has id l1=ky2 b has id iss l2/\(∀x∈l2,x.at'+2<=x.body/\x.body<=x.stop/\x.stop<=b.length)/\gnsM iss/\((l1=[]/\l2=[]/\iss=[])\/(∃y s,l1=y::s/\l2=y::s/\iss=[]/\(!y.isB 2 1 true)=true)\/(∃k,l1=k::l2/\(!k.isB 2 1 true)=false/\k.body<=k.stop/\k.stop<=b.length/\aC 201 [.d (By false (Ei 0 16 true (bod b k)))] (.tup [.d (Nl iss),erA 0 0])))):=by
  have L:gnsM []:=⟨Ab,(fun g hg=>by cases hg),Ab⟩
  match l1,d with
  |[],_=>exact .inr ⟨[],[],rfl,(fun x h=>by cases h),L,.inl ⟨rfl,rfl,rfl⟩⟩
  |x::r,d=>
   cases h:x.isB 2 1 true
   ·exact .inr ⟨[],x::r,by rw[ky1,Ai (by rw[h];simp)],d,L,.inr (.inl ⟨x,r,rfl,rfl,rfl,by rw[h];rfl⟩)⟩
   ·obtain⟨-,B,A⟩:=d x Ab
    have hbl:(bod b x).length<=390000:=t _ _
    have hel:=Ga 0 16 true (bod b x) Aa
    have E:=Nm (Ei 0 16 true (bod b x)) Aa
    rcases Ri (Ei 0 16 true (bod b x)) Aa with⟨v,v0,v1,v2,v3⟩|⟨c,o,k0,-,k2⟩
    ·rw[v3] at E
     have Y:(v.map gnE).flatten.length<=400000:=by
      have:=Hy 0 16 true (v.map gnE).flatten
      have e:=Cf List.length v2
      unfold eS at e;omega
     refine .inr ⟨v,r,by rw[ky1,Aj h,v3];rfl,(fun z Z=>d z (by simp[Z])),cK v1 Y,.inr (.inr ⟨x,rfl,by rw[h];rfl,B,A,E⟩)⟩
    ·rw[k2] at E
     exact .inl ⟨x,r,c,o,rfl,by rw[h];rfl,B,A,by rw[Av];omega,E,by rw[ky1,Aj h,k2];rfl⟩
 rcases X with⟨k,l2,c,o,rfl,a1,u1,u2,gc,E,U⟩|⟨iss,l2,U,i,hm,P⟩
 ·rw[U]
  exact ZZ b M q F a1 u1 u2 gc E
 rw[U]
 clear U d
 have V:(∃j m,l2=j::m/\(!j.isB 2 2 false)=false/\j.body<=j.stop/\j.stop<=b.length/\(((bod b j).length:Int)==0)=true/\ky2 b has id iss l2=(none,6,j.body))\/(∃ser m,ky2 b has id iss l2=ky3 ⟨has,id,iss,ser⟩ m/\ser.length<=390000/\((l2=[]/\m=[]/\ser=[])\/(∃z u,l2=z::u/\m=z::u/\ser=[]/\(!z.isB 2 2 false)=true)\/(∃j,l2=j::m/\ser=bod b j/\(!j.isB 2 2 false)=false/\j.body<=j.stop/\j.stop<=b.length/\(((bod b j).length:Int)==0)=false))):=by
  match l2,i with
  |[],_=>exact .inr ⟨[],[],rfl,Ab,.inl ⟨rfl,rfl,rfl⟩⟩
  |x::r,i=>
   cases h:x.isB 2 2 false
   ·exact .inr ⟨[],x::r,by rw[ky2,Ai (by rw[h];simp)],Ab,.inr (.inl ⟨x,r,rfl,rfl,rfl,by rw[h];rfl⟩)⟩
   ·obtain⟨-,B,A⟩:=i x Ab
    by_cases T:bod b x=[]
    ·exact .inl ⟨x,r,rfl,by rw[h];rfl,B,A,by rw[T];rfl,by rw[ky2,Aj h,Aj T]⟩
    ·exact .inr ⟨bod b x,r,by rw[ky2,Aj h,Ai T],t _ _,.inr (.inr ⟨x,rfl,rfl,by rw[h];rfl,B,A,by rw[An];have:=List.length_pos_iff.2 T;omega⟩)⟩
 rcases V with⟨j,m,rfl,a2,v1,v2,W,Q⟩|⟨ser,m,Q,H,C⟩
 ·rw[Q]
  exact a8 b M q F P a2 v1 v2 W
 rw[Q]
 clear Q i
 match m,C with
 |w::v,C=>exact a9 b M q F P C
 |[],C=>
  have O:=GH ⟨has,id,iss,ser⟩ ⟨by show id.length<=_;omega,by show ser.length<=_;omega,hm⟩
  have J:ky3 ⟨has,id,iss,ser⟩ []=if kdW ⟨has,id,iss,ser⟩=true then(some ⟨has,id,iss,ser⟩,0,0) else(none,6,0):=rfl
  rw[J]
  clear J hm K H
  cases hw:kdW ⟨has,id,iss,ser⟩
  ·rw[hw] at O;rw[Ai Ab];exact ac b M q F P C O
  ·rw[hw] at O;rw[Aj rfl];exact aa b M q F P C O
set_option maxHeartbeats 4000000
theorem N1 (L:List AV) (h:(L.all fun a=>(AV.d (tD a)).one)=true) (i:Nat):(AV.d (tD (L.getD i nlA))).one=true:=by
 rw[Bo]
 cases e:L[i]? with
 |none=>rfl
 |some a=>exact B0.1 h a (F9 e)
theorem pcE {P:Program} {f:FuncId} {us a L:List AV} (h:PC P f 4 1000 us a (fun r cs=>r=eA c o/\cs=L)) (b:L=cL (fun i=>tD (L.getD i nlA))):PC P f 4 1000 us a (fun r cs=>r=eA c o/\cs=cL (fun i=>tD (L.getD i nlA))):=by
 rw[<-b];exact h
def DcA (f:Nat) (b:List UInt8) (V:AV) (c o:Nat):Prop:=Jo f tab.mu=false/\aC f [.d (By false b)] (.tup [V,eA c o])
theorem DcA.mk {f:Nat} {b:List UInt8} {R V:AV} (h:aC f [.d (By false b)] R) (e:R= .tup [V,eA c o]) (a:Jo f tab.mu=false:=by rfl):DcA f b V c o:=⟨a,by subst e;exact h⟩
def N2 (k:Nat) (id:List UInt8) (cr:Bool) (b:List UInt8):Prop:=∃(ki kn:List UInt8) (T a w p f c o:Nat) (e:Nat->D),lM (.int .i64 (k:Int))=some (knV ki kn T a w p)/\(∀w0,(method (Tryz.prog.types.size+Made.depth) T (coV a w p) "cretula/dispatch.decode").run Tryz.prog w0= .ok (f,coV a w p) w0)/\PC Tryz.prog f 4 1000 [coA a w p,.d (By false b),.ptr 4 0] (ie (k:Int) id cr) (fun r cs=>r=eA c o/\cs=cL e)/\(c==0)=Np k b/\∀i,(AV.d (e i)).one=true
theorem SI (b:List UInt8) (d:b.length<=1000000):aC 211 [.d (By false b)] (.tup [.d (By true b),eA 0 0]):=by
 have a:=Gq b Aa
 refine acQ 7 Tryz.func211 rfl rfl fun _ _ _=> ?_
 (repeat'((conv=>whnf);refine Al a gvQ ?_));(all_goals(conv=>whnf))
 all_goals exact zE
theorem ds0 (b:List UInt8) (a:b.length<=6000):∃(d:D) (c o:Nat),(AV.d d).one=true/\DcA 211 b (.d d) c o/\(c==0)=Np 0 b:=by
 exact⟨_,0,0,rfl,.mk (SI b Aa) rfl,rfl⟩
theorem kk0 (id:List UInt8) (a:Bool) (b:List UInt8) (i:b.length<=6000):N2 0 id a b:=by
 obtain⟨d,c,o,h,⟨g,e⟩,f⟩:=ds0 b i
 exact⟨_,_,_,_,_,_,_,c,o,_,rfl,fun j=>by kernel_rfl,pcE (BW b _ _ 0 id a d c o h g e) (by unfold Ge;split<;>rfl),f,N1 _ (by unfold Ge;split<;>(repeat'(first|exact rfl|assumption|refine Bb.2 ⟨?_,?_⟩)))⟩
theorem ds9 (b:List UInt8) (f:b.length<=6000):∃(d:D) (c o:Nat),(AV.d d).one=true/\DcA 214 b (.d d) c o/\(c==0)=Np 9 b:=by
 have h:=FU b Aa
 obtain⟨d,o,a,e⟩:∃(d:D) (o:Nat),(AV.d d).one=true/\FT b= .tup [.d d,eA (YH b) o]:=by
  unfold FT YH
  by_cases h:(Dn b 0 16).code≠0
  ·rw[Aj h,Aj h];exact⟨_,_,rfl,rfl⟩
  ·rw[Ai h,Ai h]
   generalize Pe b (Dn b 0 16).l=P
   obtain⟨_|(_|⟨_,_⟩),_⟩:=P<;>exact⟨_,_,rfl,rfl⟩
 exact⟨d,YH b,o,a,.mk h e,rfl⟩
theorem kk9 (id:List UInt8) (a:Bool) (b:List UInt8) (i:b.length<=6000):N2 9 id a b:=by
 obtain⟨d,c,o,h,⟨g,e⟩,f⟩:=ds9 b i
 exact⟨_,_,_,_,_,_,_,c,o,_,rfl,fun j=>by kernel_rfl,pcE (lr b _ _ 9 [] a d c o h g e) (by unfold Ge;split<;>rfl),f,N1 _ (by unfold Ge;split<;>(repeat'(first|exact rfl|assumption|refine Bb.2 ⟨?_,?_⟩)))⟩
theorem pu (b:List UInt8) (a:b.length<=6000):∃(d:D) (c o:Nat),(AV.d d).one=true/\DcA 216 b (.d d) c o/\(c==0)=Np 14 b:=by
 exact⟨_,(psS b).2.1,_,rfl,.mk (jV b Aa) rfl,rfl⟩
theorem pw (id:List UInt8) (a:Bool) (b:List UInt8) (i:b.length<=6000):N2 14 id a b:=by
 obtain⟨d,c,o,h,⟨g,e⟩,f⟩:=pu b i
 exact⟨_,_,_,_,_,_,_,c,o,_,rfl,fun j=>by kernel_rfl,pcE (BW b _ _ 14 [] a d c o h g e) (by unfold Ge;split<;>rfl),f,N1 _ (by unfold Ge;split<;>(repeat'(first|exact rfl|assumption|refine Bb.2 ⟨?_,?_⟩)))⟩
theorem px (b:List UInt8) (a:b.length<=6000):∃(d:D) (c o:Nat),(AV.d d).one=true/\DcA 218 b (.d d) c o/\(c==0)=Np 15 b:=by
 exact⟨_,(YB b).2.1,_,rfl,.mk (QR b Aa) rfl,rfl⟩
theorem py (id:List UInt8) (a:Bool) (b:List UInt8) (i:b.length<=6000):N2 15 id a b:=by
 obtain⟨d,c,o,h,⟨g,e⟩,f⟩:=px b i
 exact⟨_,_,_,_,_,_,_,c,o,_,rfl,fun j=>by kernel_rfl,pcE (RP b _ _ 15 [] a d c o h g e) (by unfold Ge;split<;>rfl),f,N1 _ (by unfold Ge;split<;>(repeat'(first|exact rfl|assumption|refine Bb.2 ⟨?_,?_⟩)))⟩
theorem pz (b:List UInt8) (f:b.length<=6000):∃(d:D) (c o:Nat),(AV.d d).one=true/\DcA 201 b (.d d) c o/\(c==0)=Np 17 b:=by
 have h:=Nm b Aa
 show∃(d:D) (c o:Nat),(AV.d d).one=true/\DcA _ b (.d d) c o/\(c==0)=(X4 b).1.isSome
 rcases Ri b Aa with⟨v,-,-,-,e⟩|⟨c,o,a,-,e⟩
 ·rw[e] at h|-;exact⟨_,0,0,rfl,.mk h rfl,rfl⟩
 ·rw[e] at h|-;exact⟨_,c,o,rfl,.mk h rfl,An.2 a⟩
theorem qa (id:List UInt8) (a:Bool) (b:List UInt8) (i:b.length<=6000):N2 17 id a b:=by
 obtain⟨d,c,o,h,⟨g,e⟩,f⟩:=pz b i
 exact⟨_,_,_,_,_,_,_,c,o,_,rfl,fun j=>by kernel_rfl,pcE (RQ b _ _ 17 [] a d c o h g e) (by unfold Ge;split<;>rfl),f,N1 _ (by unfold Ge;split<;>(repeat'(first|exact rfl|assumption|refine Bb.2 ⟨?_,?_⟩)))⟩
theorem qb (b:List UInt8) (f:b.length<=6000):∃(d:D) (c o:Nat),(AV.d d).one=true/\DcA 201 b (.d d) c o/\(c==0)=Np 18 b:=by
 have h:=Nm b Aa
 show∃(d:D) (c o:Nat),(AV.d d).one=true/\DcA _ b (.d d) c o/\(c==0)=(X4 b).1.isSome
 rcases Ri b Aa with⟨v,-,-,-,e⟩|⟨c,o,a,-,e⟩
 ·rw[e] at h|-;exact⟨_,0,0,rfl,.mk h rfl,rfl⟩
 ·rw[e] at h|-;exact⟨_,c,o,rfl,.mk h rfl,An.2 a⟩
theorem qc (id:List UInt8) (a:Bool) (b:List UInt8) (i:b.length<=6000):N2 18 id a b:=by
 obtain⟨d,c,o,h,⟨g,e⟩,f⟩:=qb b i
 exact⟨_,_,_,_,_,_,_,c,o,_,rfl,fun j=>by kernel_rfl,pcE (RQ b _ _ 18 [] a d c o h g e) (by unfold Ge;split<;>rfl),f,N1 _ (by unfold Ge;split<;>(repeat'(first|exact rfl|assumption|refine Bb.2 ⟨?_,?_⟩)))⟩
theorem qd (b:List UInt8) (f:b.length<=6000):∃(e a d:D) (c o:Nat),(AV.d e).one=true/\(AV.d a).one=true/\(AV.d d).one=true/\DcA 221 b (.agg [.d e,.d a,.d d]) c o/\(c==0)=Np 19 b:=by
 exact⟨_,_,_,(XX b).2.1,_,rfl,rfl,rfl,.mk (wG b Aa) rfl,rfl⟩
theorem qe (id:List UInt8) (a:Bool) (b:List UInt8) (m:b.length<=6000):N2 19 id a b:=by
 obtain⟨n,f,g,c,o,k,d,i,⟨j,e⟩,h⟩:=qd b m
 exact⟨_,_,_,_,_,_,_,c,o,_,rfl,fun q=>by kernel_rfl,pcE (ls b _ _ 19 [] a n f g c o k d i j e) (by unfold Ge;split<;>rfl),h,N1 _ (by unfold Ge;split<;>(repeat'(first|exact rfl|assumption|refine Bb.2 ⟨?_,?_⟩)))⟩
theorem qf (b:List UInt8) (a:b.length<=6000):∃(d:D) (c o:Nat),(AV.d d).one=true/\DcA 203 b (.d d) c o/\(c==0)=Np 20 b:=by
 exact⟨_,(QD b).2.1,_,rfl,.mk (dV b Aa) rfl,rfl⟩
theorem qg (id:List UInt8) (a:Bool) (b:List UInt8) (i:b.length<=6000):N2 20 id a b:=by
 obtain⟨d,c,o,h,⟨g,e⟩,f⟩:=qf b i
 exact⟨_,_,_,_,_,_,_,c,o,_,rfl,fun j=>by kernel_rfl,pcE (BW b _ _ 20 [] a d c o h g e) (by unfold Ge;split<;>rfl),f,N1 _ (by unfold Ge;split<;>(repeat'(first|exact rfl|assumption|refine Bb.2 ⟨?_,?_⟩)))⟩
theorem qh (b:List UInt8) (a:b.length<=6000):∃(d:D) (c o:Nat),(AV.d d).one=true/\DcA 223 b (.d d) c o/\(c==0)=Np 21 b:=by
 exact⟨_,(YE b).2.1,_,rfl,.mk (wJ b Aa) rfl,rfl⟩
theorem qi (id:List UInt8) (a:Bool) (b:List UInt8) (i:b.length<=6000):N2 21 id a b:=by
 obtain⟨d,c,o,h,⟨g,e⟩,f⟩:=qh b i
 exact⟨_,_,_,_,_,_,_,c,o,_,rfl,fun j=>by kernel_rfl,pcE (RP b _ _ 21 [] a d c o h g e) (by unfold Ge;split<;>rfl),f,N1 _ (by unfold Ge;split<;>(repeat'(first|exact rfl|assumption|refine Bb.2 ⟨?_,?_⟩)))⟩
theorem qj (b:List UInt8) (i:b.length<=6000):∃(g d f e h a:D) (c o:Nat),(AV.d g).one=true/\(AV.d d).one=true/\(AV.d f).one=true/\(AV.d e).one=true/\(AV.d h).one=true/\(AV.d a).one=true/\DcA 226 b (.agg [.d g,.d d,.d f,.d e,.d h,.d a]) c o/\(c==0)=Np 24 b:=by
 exact⟨_,_,_,_,_,_,(YF b).2.1,_,rfl,rfl,rfl,rfl,rfl,rfl,.mk (wK b Aa) rfl,rfl⟩
theorem qk (id:List UInt8) (a:Bool) (b:List UInt8) (t:b.length<=6000):N2 24 id a b:=by
 obtain⟨u,h,j,i,v,m,c,o,s,d,n,f,g,q,⟨r,e⟩,k⟩:=qj b t
 exact⟨_,_,_,_,_,_,_,c,o,_,rfl,fun w=>by kernel_rfl,pcE (lu b _ _ 24 [] a u h j i v m c o s d n f g q r e) (by unfold Ge;split<;>rfl),k,N1 _ (by unfold Ge;split<;>(repeat'(first|exact rfl|assumption|refine Bb.2 ⟨?_,?_⟩)))⟩
theorem ql (b:List UInt8) (a:b.length<=6000):∃(d:D) (c o:Nat),(AV.d d).one=true/\DcA 203 b (.d d) c o/\(c==0)=Np 27 b:=by
 exact⟨_,(QD b).2.1,_,rfl,.mk (dV b Aa) rfl,rfl⟩
theorem qm (id:List UInt8) (a:Bool) (b:List UInt8) (i:b.length<=6000):N2 27 id a b:=by
 obtain⟨d,c,o,h,⟨g,e⟩,f⟩:=ql b i
 exact⟨_,_,_,_,_,_,_,c,o,_,rfl,fun j=>by kernel_rfl,pcE (BW b _ _ 27 [] a d c o h g e) (by unfold Ge;split<;>rfl),f,N1 _ (by unfold Ge;split<;>(repeat'(first|exact rfl|assumption|refine Bb.2 ⟨?_,?_⟩)))⟩
theorem qn (b:List UInt8) (n:b.length<=6000):∃(j d i g k a f:D) (c o:Nat),(AV.d j).one=true/\(AV.d d).one=true/\(AV.d i).one=true/\(AV.d g).one=true/\(AV.d k).one=true/\(AV.d a).one=true/\(AV.d f).one=true/\DcA 229 b (.agg [.d j,.d d,.d i,.d g,.d k,.d a,.d f]) c o/\(c==0)=Np 28 b:=by
 have h:=GU b Aa
 show∃(j d i g k a f:D) (c o:Nat),(AV.d j).one=true/\(AV.d d).one=true/\(AV.d i).one=true/\(AV.d g).one=true/\(AV.d k).one=true/\(AV.d a).one=true/\(AV.d f).one=true/\DcA _ b (.agg [.d j,.d d,.d i,.d g,.d k,.d a,.d f]) c o/\(c==0)=(isP b).1.isSome
 rcases fi b Aa with⟨v,-,e⟩|⟨c,o,m,-,e⟩
 ·rw[e] at h|-;exact⟨_,_,_,_,_,_,_,0,0,rfl,rfl,rfl,rfl,rfl,rfl,rfl,.mk h rfl,rfl⟩
 ·rw[e] at h|-;exact⟨_,_,_,_,_,_,_,c,o,rfl,rfl,rfl,rfl,rfl,rfl,rfl,.mk h rfl,An.2 m⟩
theorem qo (id:List UInt8) (a:Bool) (b:List UInt8) (v:b.length<=6000):N2 28 id a b:=by
 obtain⟨w,h,j,i,x,n,s,c,o,u,d,r,f,g,q,k,⟨t,e⟩,m⟩:=qn b v
 exact⟨_,_,_,_,_,_,_,c,o,_,rfl,fun y=>by kernel_rfl,pcE (lv b _ _ 28 [] a w h j i x n s c o u d r f g q k t e) (by unfold Ge;split<;>rfl),m,N1 _ (by unfold Ge;split<;>(repeat'(first|exact rfl|assumption|refine Bb.2 ⟨?_,?_⟩)))⟩
theorem qp (b:List UInt8) (f:b.length<=6000):∃(d:D) (c o:Nat),(AV.d d).one=true/\DcA 201 b (.d d) c o/\(c==0)=Np 29 b:=by
 have h:=Nm b Aa
 show∃(d:D) (c o:Nat),(AV.d d).one=true/\DcA _ b (.d d) c o/\(c==0)=(X4 b).1.isSome
 rcases Ri b Aa with⟨v,-,-,-,e⟩|⟨c,o,a,-,e⟩
 ·rw[e] at h|-;exact⟨_,0,0,rfl,.mk h rfl,rfl⟩
 ·rw[e] at h|-;exact⟨_,c,o,rfl,.mk h rfl,An.2 a⟩
theorem qq (id:List UInt8) (a:Bool) (b:List UInt8) (i:b.length<=6000):N2 29 id a b:=by
 obtain⟨d,c,o,h,⟨g,e⟩,f⟩:=qp b i
 exact⟨_,_,_,_,_,_,_,c,o,_,rfl,fun j=>by kernel_rfl,pcE (RQ b _ _ 29 [] a d c o h g e) (by unfold Ge;split<;>rfl),f,N1 _ (by unfold Ge;split<;>(repeat'(first|exact rfl|assumption|refine Bb.2 ⟨?_,?_⟩)))⟩
theorem qr (b:List UInt8) (g:b.length<=6000):∃(d a:D) (c o:Nat),(AV.d d).one=true/\(AV.d a).one=true/\DcA 232 b (.agg [.d d,.d a]) c o/\(c==0)=Np 30 b:=by
 have h:=GF b Aa
 show∃(d a:D) (c o:Nat),(AV.d d).one=true/\(AV.d a).one=true/\DcA _ b (.agg [.d d,.d a]) c o/\(c==0)=(sbO b).1.isSome
 rcases ff b Aa with⟨v,v',-,e⟩|⟨c,o,f,-,e⟩
 ·rw[e] at h|-;exact⟨_,_,0,0,rfl,rfl,.mk h rfl,rfl⟩
 ·rw[e] at h|-;exact⟨_,_,c,o,rfl,rfl,.mk h rfl,An.2 f⟩
theorem qs (id:List UInt8) (a:Bool) (b:List UInt8) (j:b.length<=6000):N2 30 id a b:=by
 obtain⟨k,g,c,o,i,d,⟨h,e⟩,f⟩:=qr b j
 exact⟨_,_,_,_,_,_,_,c,o,_,rfl,fun m=>by kernel_rfl,pcE (lw b _ _ 30 [] a k g c o i d h e) (by unfold Ge;split<;>rfl),f,N1 _ (by unfold Ge;split<;>(repeat'(first|exact rfl|assumption|refine Bb.2 ⟨?_,?_⟩)))⟩
theorem qt (b:List UInt8) (f:b.length<=6000):∃(d:D) (c o:Nat),(AV.d d).one=true/\DcA 206 b (.d d) c o/\(c==0)=Np 31 b:=by
 have h:=cX b Aa fun x _=>by have:=S6 b x;omega
 show∃(d:D) (c o:Nat),(AV.d d).one=true/\DcA _ b (.d d) c o/\(c==0)=(pU b).1.isSome
 rcases AW b Aa with⟨v,-,e⟩|⟨c,o,a,-,e⟩
 ·rw[e] at h|-;exact⟨_,0,0,rfl,.mk h rfl,rfl⟩
 ·rw[e] at h|-;exact⟨_,c,o,rfl,.mk h rfl,An.2 a⟩
theorem qu (id:List UInt8) (a:Bool) (b:List UInt8) (i:b.length<=6000):N2 31 id a b:=by
 obtain⟨d,c,o,h,⟨g,e⟩,f⟩:=qt b i
 exact⟨_,_,_,_,_,_,_,c,o,_,rfl,fun j=>by kernel_rfl,pcE (bw b _ _ 31 [] a d c o h g e) (by unfold Ge;split<;>rfl),f,N1 _ (by unfold Ge;split<;>(repeat'(first|exact rfl|assumption|refine Bb.2 ⟨?_,?_⟩)))⟩
theorem qv (b:List UInt8) (f:b.length<=6000):∃(d:D) (c o:Nat),(AV.d d).one=true/\DcA 235 b (.d d) c o/\(c==0)=Np 32 b:=by
 show∃(d:D) (c o:Nat),(AV.d d).one=true/\DcA _ b (.d d) c o/\(c==0)=(hX b).isSome
 rcases wS b Aa with⟨p,e,h⟩|⟨e,c,o,a,h⟩
 ·rw[e];exact⟨_,0,0,rfl,.mk h rfl,rfl⟩
 ·rw[e];exact⟨_,c,o,rfl,.mk h rfl,An.2 a⟩
theorem qw (id:List UInt8) (a:Bool) (b:List UInt8) (i:b.length<=6000):N2 32 id a b:=by
 obtain⟨d,c,o,h,⟨g,e⟩,f⟩:=qv b i
 exact⟨_,_,_,_,_,_,_,c,o,_,rfl,fun j=>by kernel_rfl,pcE (ru b _ _ 32 [] a d c o h g e) (by unfold Ge;split<;>rfl),f,N1 _ (by unfold Ge;split<;>(repeat'(first|exact rfl|assumption|refine Bb.2 ⟨?_,?_⟩)))⟩
theorem qx (b:List UInt8) (f:b.length<=6000):∃(d:D) (c o:Nat),(AV.d d).one=true/\DcA 238 b (.d d) c o/\(c==0)=Np 33 b:=by
 show∃(d:D) (c o:Nat),(AV.d d).one=true/\DcA _ b (.d d) c o/\(c==0)=(iA b).isSome
 rcases wT b Aa with⟨p,e,h⟩|⟨e,c,o,a,h⟩
 ·rw[e];exact⟨_,0,0,rfl,.mk h rfl,rfl⟩
 ·rw[e];exact⟨_,c,o,rfl,.mk h rfl,An.2 a⟩
theorem qy (id:List UInt8) (a:Bool) (b:List UInt8) (i:b.length<=6000):N2 33 id a b:=by
 obtain⟨d,c,o,h,⟨g,e⟩,f⟩:=qx b i
 exact⟨_,_,_,_,_,_,_,c,o,_,rfl,fun j=>by kernel_rfl,pcE (m0 b _ _ 33 [] a d c o h g e) (by unfold Ge;split<;>rfl),f,N1 _ (by unfold Ge;split<;>(repeat'(first|exact rfl|assumption|refine Bb.2 ⟨?_,?_⟩)))⟩
theorem qz (b:List UInt8) (j:b.length<=6000):∃(g a d f:D) (c o:Nat),(AV.d g).one=true/\(AV.d a).one=true/\(AV.d d).one=true/\(AV.d f).one=true/\DcA 241 b (.agg [.d g,.d a,.d d,.d f]) c o/\(c==0)=Np 35 b:=by
 have h:=IT b Aa
 show∃(g a d f:D) (c o:Nat),(AV.d g).one=true/\(AV.d a).one=true/\(AV.d d).one=true/\(AV.d f).one=true/\DcA _ b (.agg [.d g,.d a,.d d,.d f]) c o/\(c==0)=(kyO b).1.isSome
 rcases fg b Aa with⟨v,-,e⟩|⟨c,o,i,-,e⟩
 ·rw[e] at h|-;exact⟨_,_,_,_,0,0,rfl,rfl,rfl,rfl,.mk h rfl,rfl⟩
 ·rw[e] at h|-;exact⟨_,_,_,_,c,o,rfl,rfl,rfl,rfl,.mk h rfl,An.2 i⟩
theorem ra (id:List UInt8) (a:Bool) (b:List UInt8) (q:b.length<=6000):N2 35 id a b:=by
 obtain⟨r,g,i,h,c,o,n,d,k,f,⟨m,e⟩,j⟩:=qz b q
 exact⟨_,_,_,_,_,_,_,c,o,_,rfl,fun s=>by kernel_rfl,pcE (m6 b _ _ 35 [] a r g i h c o n d k f m e) (by unfold Ge;split<;>rfl),j,N1 _ (by unfold Ge;split<;>(repeat'(first|exact rfl|assumption|refine Bb.2 ⟨?_,?_⟩)))⟩
theorem re (b:List UInt8) (g:b.length<=6000):∃(f a d e:D) (c o:Nat),(AV.d f).one=true/\(AV.d a).one=true/\(AV.d d).one=true/\(AV.d e).one=true/\DcA 244 b (.agg [.d f,.d a,.d d,.d e]) c o/\(c==0)=Np 36 b:=by
 exact⟨_,_,_,_,(XY b).2.1,_,rfl,rfl,rfl,rfl,.mk (wH b Aa) rfl,rfl⟩
theorem rf (id:List UInt8) (a:Bool) (b:List UInt8) (q:b.length<=6000):N2 36 id a b:=by
 obtain⟨r,g,i,h,c,o,n,d,k,f,⟨m,e⟩,j⟩:=re b q
 exact⟨_,_,_,_,_,_,_,c,o,_,rfl,fun s=>by kernel_rfl,pcE (m7 b _ _ 36 [] a r g i h c o n d k f m e) (by unfold Ge;split<;>rfl),j,N1 _ (by unfold Ge;split<;>(repeat'(first|exact rfl|assumption|refine Bb.2 ⟨?_,?_⟩)))⟩
theorem rg (b:List UInt8) (a:b.length<=6000):∃(d:D) (c o:Nat),(AV.d d).one=true/\DcA 247 b (.d d) c o/\(c==0)=Np 37 b:=by
 exact⟨_,(YC b).2.1,_,rfl,.mk (YW b Aa) rfl,rfl⟩
theorem rh (id:List UInt8) (a:Bool) (b:List UInt8) (i:b.length<=6000):N2 37 id a b:=by
 obtain⟨d,c,o,h,⟨g,e⟩,f⟩:=rg b i
 exact⟨_,_,_,_,_,_,_,c,o,_,rfl,fun j=>by kernel_rfl,pcE (m8 b _ _ 37 [] a d c o h g e) (by unfold Ge;split<;>rfl),f,N1 _ (by unfold Ge;split<;>(repeat'(first|exact rfl|assumption|refine Bb.2 ⟨?_,?_⟩)))⟩
theorem ri (b:List UInt8) (f:b.length<=6000):∃(d:D) (c o:Nat),(AV.d d).one=true/\DcA 206 b (.d d) c o/\(c==0)=Np 46 b:=by
 have h:=cX b Aa fun x _=>by have:=S6 b x;omega
 show∃(d:D) (c o:Nat),(AV.d d).one=true/\DcA _ b (.d d) c o/\(c==0)=(pU b).1.isSome
 rcases AW b Aa with⟨v,-,e⟩|⟨c,o,a,-,e⟩
 ·rw[e] at h|-;exact⟨_,0,0,rfl,.mk h rfl,rfl⟩
 ·rw[e] at h|-;exact⟨_,c,o,rfl,.mk h rfl,An.2 a⟩
theorem rj (id:List UInt8) (a:Bool) (b:List UInt8) (i:b.length<=6000):N2 46 id a b:=by
 obtain⟨d,c,o,h,⟨g,e⟩,f⟩:=ri b i
 exact⟨_,_,_,_,_,_,_,c,o,_,rfl,fun j=>by kernel_rfl,pcE (bw b _ _ 46 [] a d c o h g e) (by unfold Ge;split<;>rfl),f,N1 _ (by unfold Ge;split<;>(repeat'(first|exact rfl|assumption|refine Bb.2 ⟨?_,?_⟩)))⟩
theorem rk (b:List UInt8) (a:b.length<=6000):∃(d:D) (c o:Nat),(AV.d d).one=true/\DcA 249 b (.d d) c o/\(c==0)=Np 54 b:=by
 exact⟨_,(XZ b).2.1,_,rfl,.mk (wF b Aa) rfl,rfl⟩
theorem rl (id:List UInt8) (a:Bool) (b:List UInt8) (i:b.length<=6000):N2 54 id a b:=by
 obtain⟨d,c,o,h,⟨g,e⟩,f⟩:=rk b i
 exact⟨_,_,_,_,_,_,_,c,o,_,rfl,fun j=>by kernel_rfl,pcE (RP b _ _ 54 [] a d c o h g e) (by unfold Ge;split<;>rfl),f,N1 _ (by unfold Ge;split<;>(repeat'(first|exact rfl|assumption|refine Bb.2 ⟨?_,?_⟩)))⟩
theorem me (b:List UInt8) (f:b.length<=6000):∃(d:D) (c o:Nat),(AV.d d).one=true/\DcA 209 b (.d d) c o/\(c==0)=Np 101 b:=by
 have h:=cP b Aa
 obtain⟨d,o,a,e⟩:∃(d:D) (o:Nat),(AV.d d).one=true/\Yy b= .tup [.d d,eA (Y0 b) o]:=by
  unfold Yy Y0
  by_cases h:(Dn b 0 16).code≠0
  ·rw[Aj h,Aj h];exact⟨_,_,rfl,rfl⟩
  ·rw[Ai h,Ai h]
   generalize Kk b (Dn b 0 16).l=P
   obtain⟨_|(_|⟨_,_⟩),_⟩:=P<;>exact⟨_,_,rfl,rfl⟩
 exact⟨d,Y0 b,o,a,.mk h e,rfl⟩
theorem mf (id:List UInt8) (a:Bool) (b:List UInt8) (i:b.length<=6000):N2 101 id a b:=by
 obtain⟨d,c,o,h,⟨g,e⟩,f⟩:=me b i
 exact⟨_,_,_,_,_,_,_,c,o,_,rfl,fun j=>by kernel_rfl,pcE (bz b _ _ 101 [] a d c o h g e) (by unfold Ge;split<;>rfl),f,N1 _ (by unfold Ge;split<;>(repeat'(first|exact rfl|assumption|refine Bb.2 ⟨?_,?_⟩)))⟩
theorem mg (b:List UInt8) (f:b.length<=6000):∃(d:D) (c o:Nat),(AV.d d).one=true/\DcA 209 b (.d d) c o/\(c==0)=Np 111 b:=by
 have h:=cP b Aa
 obtain⟨d,o,a,e⟩:∃(d:D) (o:Nat),(AV.d d).one=true/\Yy b= .tup [.d d,eA (Y0 b) o]:=by
  unfold Yy Y0
  by_cases h:(Dn b 0 16).code≠0
  ·rw[Aj h,Aj h];exact⟨_,_,rfl,rfl⟩
  ·rw[Ai h,Ai h]
   generalize Kk b (Dn b 0 16).l=P
   obtain⟨_|(_|⟨_,_⟩),_⟩:=P<;>exact⟨_,_,rfl,rfl⟩
 exact⟨d,Y0 b,o,a,.mk h e,rfl⟩
theorem mh (id:List UInt8) (a:Bool) (b:List UInt8) (i:b.length<=6000):N2 111 id a b:=by
 obtain⟨d,c,o,h,⟨g,e⟩,f⟩:=mg b i
 exact⟨_,_,_,_,_,_,_,c,o,_,rfl,fun j=>by kernel_rfl,pcE (bz b _ _ 111 [] a d c o h g e) (by unfold Ge;split<;>rfl),f,N1 _ (by unfold Ge;split<;>(repeat'(first|exact rfl|assumption|refine Bb.2 ⟨?_,?_⟩)))⟩
theorem io:RO=(0,[])::ID.map (fun p=>((p.1:Int),p.2)):=by decide+kernel
theorem ae:(ID.find? fun p=>p.2==[])=none:=by decide+kernel
theorem iq (id:List UInt8):eZ id=(qM id:Int):=by
 unfold eZ qM
 by_cases h:id=[]
 ·subst h
  rw[Aj rfl,ae];rfl
 ·rw[Ai h,io,List.find?_cons]
  have e:(([]:List UInt8)==id)=false:=by rw[An];exact fun k=>h k.symm
  simp only[e]
  rw[List.find?_map]
  have a:((fun p:Int×List UInt8=>p.2==id)∘fun p:Nat×List UInt8=>((p.1:Int),p.2))=fun p=>p.2==id:=rfl
  rw[a]
  cases ID.find? fun p=>p.2==id<;>rfl
theorem SJ (id:List UInt8):qM id∈0::ID.map (·.1):=by
 unfold qM
 cases h:ID.find? fun p=>p.2==id with
 |none=>exact Bd
 |some p=>exact Be _ (Cl.2 ⟨p,List.mem_of_find?_eq_some h,rfl⟩)
theorem SK (id:List UInt8) (a:Bool) (b:List UInt8) (d:b.length<=6000):N2 (qM id) id a b:=by
 have h:qM id∈[0,9,14,15,17,18,19,20,21,24,27,28,29,30,31,32,33,35,36,37,46,54,101,111]:=SJ id
 generalize qM id=k at h|-
 simp only[Bj,Cb,or_false] at h
 rcases h with rfl|rfl|rfl|rfl|rfl|rfl|rfl|rfl|rfl|rfl|rfl|rfl|rfl|rfl|rfl|rfl|rfl|rfl|rfl|rfl|rfl|rfl|rfl|rfl
 ·exact kk0 id a b d
 ·exact kk9 id a b d
 ·exact pw id a b d
 ·exact py id a b d
 ·exact qa id a b d
 ·exact qc id a b d
 ·exact qe id a b d
 ·exact qg id a b d
 ·exact qi id a b d
 ·exact qk id a b d
 ·exact qm id a b d
 ·exact qo id a b d
 ·exact qq id a b d
 ·exact qs id a b d
 ·exact qu id a b d
 ·exact qw id a b d
 ·exact qy id a b d
 ·exact ra id a b d
 ·exact rf id a b d
 ·exact rh id a b d
 ·exact rj id a b d
 ·exact rl id a b d
 ·exact mf id a b d
 ·exact mh id a b d
theorem ir (h:p:=by first|rfl|(simp only[D8,AV.ren,AV.give,D.un,Ef,D7,D6,Ap,Am,Ak,Ho,Hm];first|done|rfl)):p:=h
theorem iw (x:Ext) (h:x.oid.length<=4000000) (b:H7 x.oid=false):aC 154 [exA x] (.tup [.agg (tyC 0 [] false),eA 8 0]):=by
 have a:=Yc x h
 rw[b] at a
 refine acQ 38 Tryz.func154 rfl rfl fun _ _ _=> ?_
 (repeat'((conv=>whnf);first|refine Ej ?_|refine Al a ir ?_|exact zE))
theorem SL:tyC 0 [] false=cL (fun i=>tD ((tyC 0 [] false).getD i nlA)):=rfl
theorem CH (i:Nat):(AV.d (tD ((tyC 0 [] false).getD i nlA))).one=true:=N1 _ rfl i
theorem wU (x:Ext) (b:x.oid.length<=4000000) (r:x.val.length<=6000):∃(e:Nat->D) (c o:Nat),aC 154 [exA x] (.tup [.agg (cL e),eA c o])/\(c==0)=dP x/\∀i,(AV.d (e i)).one=true:=by
 unfold dP
 cases m:H7 x.oid
 ·have h:=iw x b m
  rw[SL] at h
  exact⟨_,8,0,h,rfl,CH⟩
 ·obtain⟨t,q,T,a,w,p,f,c,o,e,d,s,g,n,j⟩:=SK x.oid x.cr x.val r
  rw[Cd,<-n]
  rw[<-iq] at d g
  have h:=ig x.oid x.val x.cr t q T a w p f c o e j b m d s g
  by_cases k:c=0
  ·rw[Aj k,Aj k] at h
   exact⟨e,0,0,h,by rw[k],j⟩
  ·rw[Ai k,Ai k,SL] at h
   exact⟨_,c,o,h,rfl,CH⟩
def cD (e:Nat->D):List D:=[e 0,e 1,e 2,e 3,e 4,e 5,e 6,e 7,e 8,e 9,e 10,e 11,e 12,e 13,e 14,e 15,e 16,e 17,e 18,e 19,e 20,e 21,e 22,e 23,e 24,e 25,e 26,e 27,e 28,e 29,e 30,e 31,e 32,e 33,e 34,e 35,e 36,e 37]
theorem af {e:Nat->D} (a:∀i,(AV.d (e i)).one=true):aD (cL e)=true:=by
 show((AV.d (e 0)).one&&_)=true
 repeat'(first|exact rfl|exact a _|refine Bb.2 ⟨?_,?_⟩)
theorem ix (z:List AV) (e:Nat->D) (b:∀i,(AV.d (e i)).one=true) (a:z.length=38):L3 (fun i=>some (i*38,38)) z [(0,.agg (cL e))]=some (cL e):=by
 unfold L3
 simp only[AV.flat,af b,Cd,a]
 rw[show(Nat.beq (AV.agg (cL e)).cells.length 38&&Nat.ble (0*38+38) 38)=true from rfl]
 simp only[L3]
 show some (Kg z 0 (cL e))=_
 unfold Kg
 simp[a,cL]
theorem SM (z:List AV) (j:Nat) (e:Nat->D) (b:∀i,(AV.d (e i)).one=true) (d:z.length=38) (a:j=0):L3 (fun i=>some (i*38,38)) z [(j,.agg [.d (e 0),.d (e 1),.d (e 2),.d (e 3),.d (e 4),.d (e 5),.d (e 6),.d (e 7),.d (e 8),.d (e 9),.d (e 10),.d (e 11),.d (e 12),.d (e 13),.d (e 14),.d (e 15),.d (e 16),.d (e 17),.d (e 18),.d (e 19),.d (e 20),.d (e 21),.d (e 22),.d (e 23),.d (e 24),.d (e 25),.d (e 26),.d (e 27),.d (e 28),.d (e 29),.d (e 30),.d (e 31),.d (e 32),.d (e 33),.d (e 34),.d (e 35),.d (e 36),.d (e 37)])]=some (cL e):=by
 subst a
 exact ix z e b d
theorem SN (h:p:=by first|rfl|(simp only[D8,AV.ren,AV.give,D.un,Ef,D7,D6,Ap,Am,Ak,Ho,Hm,Fy];first|done|rfl)):p:=h
theorem W7 (l:List Ext) (C:l.length<=1000000) (v:∀x∈l,x.oid.length<=4000000/\x.val.length<=6000):Es Tryz.prog 117 [.d (Ph l)] (fun r=>∃(u:D) (n:Int),r= .tup [.d u,iv n]/\decide (n<0)=l.all dP):=by
 refine acQ 31 Tryz.func117 rfl rfl fun _ _ _=> ?_
 (all_goals(conv=>whnf))
 refine F2 [.s 4 38 275] (fun z:Nat×List (Nat->D)=>z.1<=l.length/\z.2.length<=z.1/\(l.take z.1).all dP=true) (fun z=>l.length-z.1) (fun z=>⟨[(4,Fy 4 38 275 cD z.2),(9,.d (Ph l)),(10,iv l.length),(11,iv z.1)],[],[(4,(z.2.length,38,275))]⟩) (0,[]) ⟨Ab,Ab,rfl⟩ leQ ?_
 rintro⟨i,a⟩ ⟨y,t,b⟩
 simp only at y t b
 by_cases f:i<l.length
 ·have B:decide ((i:Int)<(l.length:Int))=true:=Aq Aa
  obtain⟨x,d⟩:∃p,l[i]?=some p:=⟨_,Ev f⟩
  obtain⟨w,s⟩:=v x (F9 d)
  obtain⟨e,c,o,m,q,g⟩:=wU x w s
  by_cases j:c=0
  ·have h:dP x=true:=by rw[<-q,j];rfl
   have A:((c:Int) !=0)=false:=by rw[j];rfl
   (repeat'((conv=>whnf);first|refine zP ?_|refine zN ?_|refine Ej ?_|refine Ee ?_|refine NIdx.tab (fun _=>rfl) d ?_|refine Al m SN ?_|(refine dC (by(repeat'(first|exact rfl|exact g _|refine Bb.2 ⟨?_,?_⟩))) ?_)|refine E4 cD e ?_|(rw[SM _ _ e g rfl rfl])|(with_reducible refine NInt.i64 ?_)));(all_goals(conv=>whnf))
   refine⟨(i+1,a++[e]),⟨f,by simp only[En,D9,Ax];omega,?_⟩,by simp only;omega,?_⟩
   ·simp only
    rw[List.take_add_one,d,List.all_append,b]
    simp[h]
   ·exact leQ
  ·have h:dP x=false:=by rw[<-q,An];exact j
   have A:((c:Int) !=0)=true:=by rw[Av];omega
   have k:l.all dP=false:=by
    rw[D5]
    exact⟨x,F9 d,by rw[h];exact Bool.false_ne_true⟩
   (repeat'((conv=>whnf);first|refine zP ?_|refine NIdx.tab (fun _=>rfl) d ?_|refine Al m SN ?_|(refine dC (by(repeat'(first|exact rfl|exact g _|refine Bb.2 ⟨?_,?_⟩))) ?_)));(all_goals(conv=>whnf))
   refine Gf rfl ⟨_,(i:Int),rfl,?_⟩
   rw[k];exact Ao Aa
 ·have B:decide ((i:Int)<(l.length:Int))=false:=Ao Aa
  have k:l.all dP=true:=by rw[<-b,B3 Aa]
  (repeat'((conv=>whnf);refine zN ?_));(all_goals(conv=>whnf))
  refine Gf rfl ⟨_,-1,rfl,?_⟩
  rw[k];rfl
theorem SO (d:List UInt8) (f:d.length<=6000):aC 63 [Zc (Mh d).1] (bv (S4 (Mh d).1)):=by
 obtain⟨a,e⟩:=dY d Aa
 exact Vg _ a (W7 _ a.en fun x b=>⟨a.eo x b,by have:=e x b;omega⟩)
theorem rJ (b:List UInt8) (a:b.length<=6000):aC 5 [.d (By false b)] (ceR (Rn S4 b)):=wP S4 b a SO
end Go.Proofs.YtbedjionhmaafaaGreatDoor
